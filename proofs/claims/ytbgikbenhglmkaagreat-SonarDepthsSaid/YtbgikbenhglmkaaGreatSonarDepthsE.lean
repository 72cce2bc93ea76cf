/- Proved here at the end: the row named in the last theorem, on no condition. -/
import Derived.Test.YtbgikbenhglmkaaGreatSonarDepthsD
import Derived.Test.YtbgikbenhglmkaaGreatProg
import Derived.Test.YtbgikbenhglmkaaGreatRows
set_option linter.unusedSimpArgs false
set_option linter.unusedVariables false
namespace Go.Pw
set_option maxRecDepth 2000
open Go Go.Proofs A1 A2 A3 A4
abbrev seD (x : Se) : List D := [dI x.1, dI x.2.1, .sl 6 x.2.2.1.length fun i => r6 (x.2.2.1.getD i vwd), .sl 1 x.2.2.2.length fun i => r1 (x.2.2.2.getD i 0)]
structure SeOk (x : Se) : Prop where
  w : 1 ≤ x.1 ∧ x.1 ≤ 12
  h : 1 ≤ x.2.1 ∧ x.2.1 ≤ 12
  n : x.2.2.1.length ≤ 10
  v : ∀ i, i < x.2.2.1.length → ryOk (x.2.2.1.getD i vwd).1 x.1 x.2.1 ∧ 0 ≤ (x.2.2.1.getD i vwd).2 ∧ (x.2.2.1.getD i vwd).2 ≤ 1000
  m : ∀ y ∈ x.2.2.2, 0 ≤ y ∧ y ≤ x.1 * x.2.1 - 1
  s : srt x.2.2.2
theorem wnE_ok {M last y : Int} : wnE M last y = 0 ↔ (0 ≤ y ∧ y ≤ M - 1) ∧ last < y := by
  rw [wnE, fst2, unl0 (by decide), unl0 (by decide)]
theorem vwE_ok {w h : Int} {v : Vw} : vwE w h v = 0 ↔ ryOk v.1 w h ∧ 0 ≤ v.2 ∧ v.2 ≤ 1000 := by
  rw [vwE, fst2, unl0 (by decide), unl0 (by decide)]
theorem eachW_ok {M : Int} : ∀ {m : List Int} {last : Int} {k : Nat}, (eachW M last k m).2 = 0 ↔ (∀ y ∈ m, last < y ∧ 0 ≤ y ∧ y ≤ M - 1) ∧ m.Pairwise (· < ·)
  | [], last, k => by simp [eachW]
  | y :: m, last, k => by
    rw [eachW]
    split
    · rename_i h
      rw [eachW_ok]
      have h1 := wnE_ok.1 h
      constructor
      · rintro ⟨h2, h3⟩
        refine ⟨fun z hz => ?_, List.pairwise_cons.2 ⟨fun z hz => (h2 z hz).1, h3⟩⟩
        rcases List.mem_cons.1 hz with rfl | hz
        · exact ⟨h1.2, h1.1⟩
        · have := h2 z hz; exact ⟨by omega, this.2⟩
      · rintro ⟨h2, h3⟩
        obtain ⟨h4, h5⟩ := List.pairwise_cons.1 h3
        exact ⟨fun z hz => ⟨h4 z hz, (h2 z (List.mem_cons_of_mem _ hz)).2⟩, h5⟩
    · rename_i h
      constructor
      · intro h1; exact absurd h1 h
      · rintro ⟨h2, _⟩
        have := h2 y (List.mem_cons_self ..)
        exact absurd (wnE_ok.2 ⟨this.2, this.1⟩) h
theorem srt_of {m : List Int} (h : m.Pairwise (· < ·)) : srt m := fun i j hij hj => by
  have := List.pairwise_iff_getElem.1 h i j (by omega) hj hij
  simpa [List.getD_eq_getElem?_getD, List.getElem?_eq_getElem, hj, show i < m.length by omega] using this
theorem of_srt {m : List Int} (h : srt m) : m.Pairwise (· < ·) := List.pairwise_iff_getElem.2 fun i j hi hj hij => by
  have := h i j hij hj
  simpa [List.getD_eq_getElem?_getD, List.getElem?_eq_getElem, hj, hi] using this
theorem seE_ok {x : Se} : (seE x).2 = 0 ↔ SeOk x := by
  rw [seE]
  constructor
  · intro h
    split at h
    · rename_i h0
      have hg := gridE_ok.1 h0
      split at h
      · rename_i h1
        have h2 := eachE_ok.1 h1
        obtain ⟨h3, h4⟩ := eachW_ok.1 h
        exact ⟨hg.1.1, hg.1.2, by omega, fun i hi => vwE_ok.1 (h2 _ (getD_mem _ hi)), fun y hy => (h3 y hy).2, srt_of h4⟩
      · rename_i h1; exact absurd h h1
    · rename_i h0; exact absurd h h0
  · intro h
    rw [if_pos (gridE_ok.2 ⟨⟨h.w, h.h⟩, by have := h.n; omega⟩), if_pos (eachE_ok.2 fun v hv => ?_)]
    · exact eachW_ok.2 ⟨fun y hy => ⟨by have := h.m y hy; omega, h.m y hy⟩, of_srt h.s⟩
    · obtain ⟨i, hi, rfl⟩ := List.getElem_of_mem hv
      have := h.v i hi
      rw [List.getD_eq_getElem?_getD, List.getElem?_eq_getElem hi] at this
      exact vwE_ok.2 this
theorem srt_len : ∀ {m : List Int} {lo hi : Int}, lo ≤ hi + 1 → m.Pairwise (· < ·) → (∀ y ∈ m, lo ≤ y ∧ y ≤ hi) → (m.length : Int) ≤ hi - lo + 1
  | [], lo, hi, hle, _, _ => by simp; omega
  | y :: m, lo, hi, hle, h, hb => by
    obtain ⟨h1, h2⟩ := List.pairwise_cons.1 h
    have h3 := hb y (List.mem_cons_self ..)
    have := srt_len (m := m) (lo := y + 1) (hi := hi) (by omega) h2 fun z hz => ⟨by have := h1 z hz; omega, (hb z (List.mem_cons_of_mem _ hz)).2⟩
    simp only [List.length_cons]; omega
theorem SeOk.wg {x : Se} (h : SeOk x) : 1 ≤ x.1 * x.2.1 ∧ x.1 * x.2.1 ≤ 144 := by
  have h1 : (1 : Int) * 1 ≤ x.1 * x.2.1 := Int.mul_le_mul h.w.1 h.h.1 (by decide) (by have := h.w; omega)
  have h2 : x.1 * x.2.1 ≤ 12 * 12 := Int.mul_le_mul h.w.2 h.h.2 (by have := h.h; omega) (by decide)
  omega
theorem SeOk.len {x : Se} (h : SeOk x) : x.2.2.2.length ≤ 144 := by
  have := srt_len (lo := 0) (hi := x.1 * x.2.1 - 1) (by have := h.wg; omega) (of_srt h.s) h.m
  have := h.wg
  omega
/-- The number of a cell. -/
abbrev celN (w : Int) (c : Cel) : Int := c.2 * w + c.1
/-- Whether a number is wanted. -/
abbrev isW (m : List Int) (n : Int) : Prop := bsN n m < m.length ∧ m.getD (bsN n m) 0 = n
/-- The indexes of the wanted cells among so many that a ray crosses. -/
def snJ (w : Int) (m : List Int) (r : Ry) : Nat → List Int
  | 0 => []
  | j + 1 => if isW m (celN w ((crS r).getD j (0, 0))) then snJ w m r j ++ [(bsN (celN w ((crS r).getD j (0, 0))) m : Int)] else snJ w m r j
theorem snJ_len (w : Int) (m : List Int) (r : Ry) : ∀ j, (snJ w m r j).length ≤ j
  | 0 => Nat.le_refl _
  | j + 1 => by
    have := snJ_len w m r j
    rw [snJ]; split
    · simp; omega
    · omega
/-- What a view sees. -/
def snR (w : Int) (m : List Int) (r : Ry) : List Int := snJ w m r (crS r).length
abbrev rL (l : List Int) : List D := [.sl 1 l.length fun i => r1 (l.getD i 0)]
abbrev rLs (L : List (List Int)) : List D := [.sl 1 L.length fun i => rL (L.getD i [])]
abbrev lls (L : List (List Int)) : C := slv 1 rL [] L
/-- What so many views see. -/
abbrev snK (x : Se) (k : Nat) : List (List Int) := accL (fun i => snR x.1 x.2.2.2 (x.2.2.1.getD i vwd).1) k
abbrev snS (x : Se) : List (List Int) := snK x x.2.2.1.length
theorem C111 {x : Se} : SeOk x → PFD Tryz.prog 111 [sev x] (.c (lls (snS x))) := fun hO => by
  have hm := hO.len
  obtain ⟨w, g, l, m⟩ := x
  have hw := hO.w; have hh := hO.h; have hn := hO.n
  have hs : srt m := hO.s
  simp only at hw hh hn hm
  obtain ⟨S, hS⟩ : ∃ S, S = snS (w, g, l, m) := ⟨_, rfl⟩
  rw [← hS]
  refine pi1 fn111 ?_
  (repeat' first | (refine Owe.same ?_; first | refine Owe.o ?_ | refine Owe.mk ?_ ?_) | (refine Fork.same ?_; (first | refine fkD ?_ ?_ | refine fkN ?_ ?_ | refine fkM ?_ ?_) <;> intro h) | refine MvQ.stay ?_)
  refine Sat.nilS 3 27 1 (fun i => rL (([] : List (List Int)).getD i [])) rfl ?_
  refine Sat.lp (fun k : Nat => ⟨[(14, vi .i64 k), (13, vi .i64 l.length), (12, .c (vws l)), (1, .c (.rp (seD (w, g, l, m)))), (3, .c (.ms 0 (snK (w, g, l, m) k).length))], [(0, rowv 27 1 rL [] (snK (w, g, l, m) k))], 1⟩)
    (fun k => k ≤ l.length) (fun k => l.length - k) 0 [0] (Nat.zero_le _) ?_ ?_
  · (refine qis ?_ ?_ <;> (repeat' first | exact rfl | (refine qS ?_; constructor)))
  · intro k hk
    have hkl : (snK (w, g, l, m) k).length = k := accL_len _ k
    have hks := accL_succ (fun i => snR w m (l.getD i vwd).1) k
    refine Fork.dec (fun hlt => ?_) (fun hlt => ?_)
    · have hltk : k < l.length := by omega
      have hr := (hO.v k hltk).1
      simp only at hr
      have hr12 : ryOk (l.getD k vwd).1 12 12 := by simp only [ryOk, inG] at hr ⊢; omega
      have c44 := C152 hr12
      have hin : ∀ c ∈ crS (l.getD k vwd).1, inG c w g := fun c hc => crS_in hr hc
      have hcl : (crS (l.getD k vwd).1).length ≤ 12 * 12 := by
        have h1 := wn_le hr12
        have h2 := hn_le hr12
        exact Nat.le_trans crS_len (Nat.mul_le_mul (by omega) (by omega))
      (repeat' first | (refine Owe.same ?_; first | refine Owe.o ?_ | refine Owe.mk ?_ ?_) | (refine Fork.same ?_; (first | refine fkD ?_ ?_ | refine fkN ?_ ?_ | refine fkM ?_ ?_) <;> intro h) | ((first | refine OpsL.same ?_ | refine OpsDL.same ?_); first | refine pK c44 rfl rfl ?_) | refine MvQ.stay ?_)
      refine Sat.nilS 6 3 1 (fun i => r1 (([] : List Int).getD i 0)) rfl ?_
      refine Sat.lp (fun j : Nat => ⟨[(22, vi .i64 j), (21, vi .i64 (crS (l.getD k vwd).1).length), (20, .c (prs (crS (l.getD k vwd).1))), (1, .c (.rp (seD (w, g, l, m)))), (6, .c (.ms 1 (snJ w m (l.getD k vwd).1 j).length)),
          (14, vi .i64 k), (13, vi .i64 l.length), (12, .c (vws l)), (3, .c (.ms 0 (snK (w, g, l, m) k).length))], [(0, rowv 27 1 rL [] (snK (w, g, l, m) k)), (1, rowv 3 1 r1 0 (snJ w m (l.getD k vwd).1 j))], 2⟩)
        (fun j => j ≤ (crS (l.getD k vwd).1).length) (fun j => (crS (l.getD k vwd).1).length - j) 0 [0, 2] (Nat.zero_le _) ?_ ?_
      · (refine qis ?_ ?_ <;> (repeat' first | exact rfl | (refine qS ?_; constructor)))
      · intro j hj
        have hjl := snJ_len w m (l.getD k vwd).1 j
        refine Fork.dec (fun hlt => ?_) (fun hlt => ?_)
        · have hlt : j < (crS (l.getD k vwd).1).length := by omega
          have hc := hin _ (getD_mem (0, 0) hlt)
          simp only [inG] at hc
          have c106 := C153 (l := m) (x := celN w ((crS (l.getD k vwd).1).getD j (0, 0))) ⟨by omega, hs⟩
          (repeat' first | (refine Owe.same ?_; first | refine Owe.o ?_ | refine Owe.mk ?_ ?_) | (refine Fork.same ?_; (first | refine fkD ?_ ?_ | refine fkN ?_ ?_ | refine fkM ?_ ?_) <;> intro h) | ((first | refine OpsL.same ?_ | refine OpsDL.same ?_); first | refine pK C154 rfl rfl ?_ | refine pK c106 rfl rfl ?_) | refine MvQ.stay ?_)
          · have h : isW m (celN w ((crS (l.getD k vwd).1).getD j (0, 0))) := h
            have e : snJ w m (l.getD k vwd).1 (j + 1) = snJ w m (l.getD k vwd).1 j ++ [(bsN (celN w ((crS (l.getD k vwd).1).getD j (0, 0))) m : Int)] := by rw [snJ, if_pos h]
            refine again (j + 1) [0, 13] hlt (by omega) ?_
            (refine qis ?_ ?_ <;> (repeat' first | exact rfl | (refine qS ?_; constructor)))
            · rw [e]; simp
            · exact e
          · have h : ¬ isW m (celN w ((crS (l.getD k vwd).1).getD j (0, 0))) := h
            have e : snJ w m (l.getD k vwd).1 (j + 1) = snJ w m (l.getD k vwd).1 j := by rw [snJ, if_neg h]
            refine again (j + 1) [0, 1] hlt (by omega) ?_
            (refine qis ?_ ?_ <;> (repeat' first | exact rfl | (refine qS ?_; constructor)))
            · rw [e]
            · rw [e]
        · have : j = (crS (l.getD k vwd).1).length := by omega
          subst this
          (repeat' first | (refine Owe.same ?_; first | refine Owe.o ?_ | refine Owe.mk ?_ ?_) | (refine Fork.same ?_; (first | refine fkD ?_ ?_ | refine fkN ?_ ?_ | refine fkM ?_ ?_) <;> intro h))
          refine MvQ.frz 6 _ rfl rfl (Nat.le_refl _) ?_
          (repeat' first | (refine Owe.same ?_; first | refine Owe.o ?_ | refine Owe.mk ?_ ?_) | (refine Fork.same ?_; (first | refine fkD ?_ ?_ | refine fkN ?_ ?_ | refine fkM ?_ ?_) <;> intro h) | refine MvQ.stay ?_)
          refine again (k + 1) [2] hltk (by omega) ?_
          (refine qis ?_ ?_ <;> (repeat' first | exact rfl | (refine qS ?_; constructor)))
          · show (snK (w, g, l, m) k).length + 1 = _
            rw [hkl]; exact (accL_len _ _).symm
          · exact ⟨_, rfl, hks⟩
    · (repeat' first | (refine Owe.same ?_; first | refine Owe.o ?_ | refine Owe.mk ?_ ?_) | (refine Fork.same ?_; (first | refine fkD ?_ ?_ | refine fkN ?_ ?_ | refine fkM ?_ ?_) <;> intro h) | refine MvQ.stay ?_)
      have : k = l.length := by omega
      subst this
      subst hS
      refine rqF 0 _ rfl rfl rfl ?_; (repeat' first | exact rfl | (refine qS ?_; constructor))
/-- The costs of so many views of a set. -/
def cvC (l : List Vw) (t : List Int) : Nat → Int
  | 0 => 0
  | k + 1 => cvC l t k + (l.getD (t.getD k 0).toNat vwd).2
/-- A map with more keys. -/
def putL (es : List (Int × Int)) : List Int → List (Int × Int)
  | [] => es
  | y :: l => putL (mput es y 0) l
def cvM (L : List (List Int)) (t : List Int) : Nat → List (Int × Int)
  | 0 => []
  | k + 1 => putL (cvM L t k) (L.getD (t.getD k 0).toNat [])
/-- The cost of a set of views, and whether they see all that is wanted. -/
def cvF (x : Se) (L : List (List Int)) (t : List Int) : Int × Bool := (cvC x.2.2.1 t t.length, decide ((cvM L t t.length).length = x.2.2.2.length))
theorem putL_take {es : List (Int × Int)} : ∀ {l : List Int} {j : Nat}, j < l.length → putL es (l.take (j + 1)) = mput (putL es (l.take j)) (l.getD j 0) 0
  | [], j, h => by simp at h
  | y :: l, 0, h => by simp [putL]
  | y :: l, j + 1, h => by
    simp only [List.take_succ_cons, putL, List.getD_cons_succ]
    exact putL_take (by simpa using h)
theorem cvC_bd {l : List Vw} {t : List Int} (h : ∀ i, 0 ≤ (l.getD i vwd).2 ∧ (l.getD i vwd).2 ≤ 1000) : ∀ k, 0 ≤ cvC l t k ∧ cvC l t k ≤ 1000 * k
  | 0 => by simp [cvC]
  | k + 1 => by
    have := cvC_bd (t := t) h k
    have := h (t.getD k 0).toNat
    simp only [cvC]; omega
theorem C112 {x : Se} {L : List (List Int)} {t : List Int} (hO : SeOk x) (hL : L.length = x.2.2.1.length ∧ ∀ i, (L.getD i []).length ≤ 1000) (ht : t.length ≤ 1000000) (hx : ∀ y ∈ t, 0 ≤ y ∧ y < x.2.2.1.length) : PFD Tryz.prog 112 [.c (ints t), .c (.rp (seD x)), .c (.rp (rLs L))] (.tup [vi .i64 (cvF x L t).1, vbl (cvF x L t).2]) := by
  obtain ⟨w, g, l, m⟩ := x
  have hn := hO.n
  have hm := hO.len
  simp only at hn hm hL hx
  have hlb : ∀ i, 0 ≤ (l.getD i vwd).2 ∧ (l.getD i vwd).2 ≤ 1000 := fun i => by
    rcases Nat.lt_or_ge i l.length with h | h
    · exact (hO.v i h).2
    · rw [List.getD_eq_getElem?_getD, List.getElem?_eq_none h]; decide
  rw [show cvF (w, g, l, m) L t = (cvC l t t.length, decide ((cvM L t t.length).length = m.length)) from rfl]
  refine pi2 fn112 ?_
  (repeat' first | (refine Owe.same ?_; first | refine Owe.o ?_ | refine Owe.mk ?_ ?_) | (refine Fork.same ?_; (first | refine fkD ?_ ?_ | refine fkN ?_ ?_ | refine fkM ?_ ?_) <;> intro h) | refine MvQ.stay ?_)
  refine Sat.lp (fun k : Nat => ⟨[(15, vi .i64 k), (14, vi .i64 t.length), (13, .c (ints t)), (1, .c (.rp (seD (w, g, l, m)))), (2, .c (.rp (rLs L))), (6, vi .i64 (cvC l t k)), (7, .c (.mp 0))], [(0, .mp 0 (cvM L t k))], 1⟩)
    (fun k => k ≤ t.length) (fun k => t.length - k) 0 [0] (Nat.zero_le _) ?_ ?_
  · (refine qis ?_ ?_ <;> (repeat' first | exact rfl | (refine qS ?_; constructor)))
  · intro k hk
    have hcb := cvC_bd (t := t) hlb k
    refine Fork.dec (fun hlt => ?_) (fun hlt => ?_)
    · have hltk : k < t.length := by omega
      have ht := hx _ (getD_mem 0 hltk)
      have hLl := hL.2 (t.getD k 0).toNat
      have hv := hlb (t.getD k 0).toNat
      have e : cvC l t (k + 1) = cvC l t k + (l.getD (t.getD k 0).toNat vwd).2 := rfl
      (repeat' first | (refine Owe.same ?_; first | refine Owe.o ?_ | refine Owe.mk ?_ ?_) | (refine Fork.same ?_; (first | refine fkD ?_ ?_ | refine fkN ?_ ?_ | refine fkM ?_ ?_) <;> intro h) | refine MvQ.stay ?_)
      refine Sat.lp (fun j : Nat => ⟨[(32, vi .i64 j), (31, vi .i64 (L.getD (t.getD k 0).toNat []).length), (30, .c (ints (L.getD (t.getD k 0).toNat []))), (15, vi .i64 k), (14, vi .i64 t.length), (13, .c (ints t)), (1, .c (.rp (seD (w, g, l, m)))), (2, .c (.rp (rLs L))), (6, vi .i64 (cvC l t (k + 1))), (7, .c (.mp 0))], [(0, .mp 0 (putL (cvM L t k) ((L.getD (t.getD k 0).toNat []).take j)))], 1⟩)
        (fun j => j ≤ (L.getD (t.getD k 0).toNat []).length) (fun j => (L.getD (t.getD k 0).toNat []).length - j) 0 [0] (Nat.zero_le _) ?_ ?_
      · (refine qis ?_ ?_ <;> (repeat' first | exact rfl | (refine qS ?_; constructor)))
      · intro j hj
        refine Fork.dec (fun hlt => ?_) (fun hlt => ?_)
        · have hltj : j < (L.getD (t.getD k 0).toNat []).length := by omega
          have e2 := putL_take (es := cvM L t k) hltj
          (repeat' first | (refine Owe.same ?_; first | refine Owe.o ?_ | refine Owe.mk ?_ ?_) | (refine Fork.same ?_; (first | refine fkD ?_ ?_ | refine fkN ?_ ?_ | refine fkM ?_ ?_) <;> intro h) | refine MvQ.stay ?_)
          refine again (j + 1) [0] hltj (by omega) ?_
          rw [e2]
          (refine qis ?_ ?_ <;> (repeat' first | exact rfl | (refine qS ?_; constructor)))
        · have : j = (L.getD (t.getD k 0).toNat []).length := by omega
          (repeat' first | (refine Owe.same ?_; first | refine Owe.o ?_ | refine Owe.mk ?_ ?_) | (refine Fork.same ?_; (first | refine fkD ?_ ?_ | refine fkN ?_ ?_ | refine fkM ?_ ?_) <;> intro h) | refine MvQ.stay ?_)
          refine again (k + 1) [0] hltk (by omega) ?_
          have e3 : cvM L t (k + 1) = putL (cvM L t k) ((L.getD (t.getD k 0).toNat []).take j) := by rw [cvM, this, List.take_length]
          rw [e3]
          (refine qis ?_ ?_ <;> (repeat' first | exact rfl | (refine qS ?_; constructor)))
    · have : k = t.length := by omega
      subst this
      (repeat' first | (refine Owe.same ?_; first | refine Owe.o ?_ | refine Owe.mk ?_ ?_) | (refine Fork.same ?_; (first | refine fkD ?_ ?_ | refine fkN ?_ ?_ | refine fkM ?_ ?_) <;> intro h) | refine MvQ.stay ?_)
      (refine rqK rfl ?_; (repeat' first | exact rfl | (refine qS ?_; constructor)))
      exact decide_eq_decide.2 Int.ofNat_inj
theorem accL_get {α : Type} (f : Nat → α) {d : α} {n i : Nat} (h : i < n) : (accL f n).getD i d = f i := by
  simp [accL, List.getD_eq_getElem?_getD, h]
theorem snR_len {x : Se} (h : SeOk x) : ∀ i, ((snS x).getD i []).length ≤ 1000 := fun i => by
  rcases Nat.lt_or_ge i x.2.2.1.length with hi | hi
  · have hr := (h.v i hi).1
    have hw := h.w; have hh := h.h
    have hr12 : ryOk (x.2.2.1.getD i vwd).1 12 12 := by simp only [ryOk, inG] at hr ⊢; omega
    have h1 := wn_le hr12
    have h2 := hn_le hr12
    have h3 : (crS (x.2.2.1.getD i vwd).1).length ≤ 12 * 12 := Nat.le_trans crS_len (Nat.mul_le_mul (by omega) (by omega))
    have h4 := snJ_len x.1 x.2.2.2 (x.2.2.1.getD i vwd).1 (crS (x.2.2.1.getD i vwd).1).length
    rw [snS, snK, accL_get _ hi, snR]
    omega
  · rw [List.getD_eq_getElem?_getD, List.getElem?_eq_none (by rw [accL_len]; exact hi)]; decide
/-- The best cover. -/
abbrev cvB (x : Se) : BSt := bestK (cvF x (snS x)) x.2.2.1.length (2 ^ x.2.2.1.length)
theorem C45 {x : Se} : (x.2.2.1.length ≤ 1000000 ∧ x.2.2.2.length ≤ 1000000) → PFD Tryz.prog 45 [sev x] (.tup [.c (ints (if (seE x).2 = 0 then (cvB x).l else [])), vi .i64 (if (seE x).2 = 0 then (cvB x).p else 0), vi .i64 (if (seE x).2 = 0 then unb (cvB x).ok 12 else (seE x).2)]) := fun hl => by
  by_cases h0 : (seE x).2 = 0
  · have hO := seE_ok.1 h0
    have hn := hO.n
    have c76 := C43 hl
    have c77 := C111 hO
    have c68 := C75 (g := 112) (rows := [seD x, rLs (snS x)]) (c := cvF x (snS x)) (n := x.2.2.1.length) (fun t ht hx => C112 hO ⟨accL_len _ _, snR_len hO⟩ ht hx) (by omega)
    rw [if_pos h0, if_pos h0, if_pos h0]
    rw [h0] at c76
    have hlen := bestK_len (cvF x (snS x)) x.2.2.1.length (2 ^ x.2.2.1.length)
    rw [show bestK (cvF x (snS x)) x.2.2.1.length (2 ^ x.2.2.1.length) = cvB x from rfl] at c68 hlen
    generalize cvB x = B at *
    generalize snS x = L at *
    refine pi3 fn45u ?_
    (repeat' first | (refine Owe.same ?_; first | refine Owe.o ?_ | refine Owe.mk ?_ ?_) | (refine Fork.same ?_; (first | refine fkD ?_ ?_ | refine fkN ?_ ?_ | refine fkM ?_ ?_) <;> intro h) | ((first | refine OpsL.same ?_ | refine OpsDL.same ?_); first | refine pK c76 rfl rfl ?_ | refine pK c77 rfl rfl ?_ | refine pK C85 rfl rfl ?_) | refine MvQ.stay ?_)
    · exact absurd rfl h
    refine SatL.frB 1 [7] rfl rfl ?_
    refine SatL.frB 0 [1] rfl rfl ?_
    refine SatL.go ?_
    (repeat' first | (refine Owe.same ?_; first | refine Owe.o ?_ | refine Owe.mk ?_ ?_) | (refine Fork.same ?_; (first | refine fkD ?_ ?_ | refine fkN ?_ ?_ | refine fkM ?_ ?_) <;> intro h) | ((first | refine OpsL.same ?_ | refine OpsDL.same ?_); first | refine pK c68 rfl rfl ?_ | refine pK C85 rfl rfl ?_) | refine MvQ.stay ?_)
    (refine rqK rfl ?_; (repeat' first | exact rfl | (refine qS ?_; constructor)))
  · rw [if_neg h0, if_neg h0, if_neg h0]
    refine pi3 fn45u ?_
    (repeat' first | (refine Owe.same ?_; first | refine Owe.o ?_ | refine Owe.mk ?_ ?_) | (refine Fork.same ?_; (first | refine fkD ?_ ?_ | refine fkN ?_ ?_ | refine fkM ?_ ?_) <;> intro h) | ((first | refine OpsL.same ?_ | refine OpsDL.same ?_); first | refine pK (C43 hl) rfl rfl ?_) | refine MvQ.stay ?_)
    · (refine rqK rfl ?_; (repeat' first | exact rfl | (refine qS ?_; constructor)))
    · exact absurd h h0
end Go.Pw

set_option linter.unusedVariables false
namespace Go.Pw
open Go Go.RowKit
theorem arg_trs {v : V} (h : Arg false [.sl [.int .i64, .int .i64, .int .i64]] v) : ∃ l : List (Int × Int × Int), RI v (.c (trs l)) ∧ l.length ≤ maxLen ∧ ∀ a ∈ l, i64 a.1 ∧ i64 a.2.1 ∧ i64 a.2.2 := by
  obtain ⟨d, rfl, h1⟩ := arg_c h
  obtain ⟨l, h2, h3⟩ := okD_list ((0, 0, 0) : Int × Int × Int) (fun ds => row3) h1
  exact ⟨l, VEq.ri (.c _ _ h2), h3⟩
end Go.Pw

set_option linter.unusedVariables false
namespace Go.Pw
open Go Go.RowKit
end Go.Pw

set_option linter.unusedVariables false
namespace Go.Pw
open Go Go.RowKit
end Go.Pw

set_option linter.unusedSimpArgs false
set_option linter.unusedVariables false
namespace Go.Pw
set_option maxRecDepth 2000
open Go Go.Proofs A1 A2 A3 A4
theorem fst_c {a : Int} {l : List Int} (h : a ≠ 0) : fstE (a :: l) = a := by rw [fstE, if_neg h]
theorem fst_z {l : List Int} : fstE (0 :: l) = fstE l := by rw [fstE, if_pos rfl]
abbrev exD : List Dv := [(1, 2, 3), (2, 1, 3), (4, 2, 2)]
abbrev exY : List Dv := [(10, 4, 5), (20, 5, 6)]
abbrev exT : List Pr := [(1, 0), (-1, 0)]
abbrev exU : List Pr := [(1, 0), (3, 0), (-3, 0), (0, 0)]
abbrev exS : Sc := (4, 2, [((0, 0), (3, 1), true), ((0, 1), (3, 1), false)])
abbrev exQ : Se := (4, 2, [(((0, 0), (3, 0), false), 5), (((0, 0), (3, 1), false), 4), (((0, 1), (3, 1), false), 3)], [3, 6])
theorem C65 : PFD Tryz.prog 65 [] (.c (trs exD)) := by
  refine pi1 fn65 ?_
  (repeat' first | (refine Owe.same ?_; first | refine Owe.o ?_ | refine Owe.mk ?_ ?_) | (refine Fork.same ?_; (first | refine fkD ?_ ?_ | refine fkN ?_ ?_ | refine fkM ?_ ?_) <;> intro h) | refine MvQ.stay ?_)
  (refine rqK rfl ?_; (repeat' first | exact rfl | (refine qS ?_; constructor)))
theorem C67 : PFD Tryz.prog 67 [] (.c (trs exY)) := by
  refine pi1 fn67 ?_
  (repeat' first | (refine Owe.same ?_; first | refine Owe.o ?_ | refine Owe.mk ?_ ?_) | (refine Fork.same ?_; (first | refine fkD ?_ ?_ | refine fkN ?_ ?_ | refine fkM ?_ ?_) <;> intro h) | refine MvQ.stay ?_)
  (refine rqK rfl ?_; (repeat' first | exact rfl | (refine qS ?_; constructor)))
theorem C130 {a b c d : Int} {h : Bool} : PFD Tryz.prog 130 [vi .i64 a, vi .i64 b, vi .i64 c, vi .i64 d, vbl h] (ryv ((a, b), (c, d), h)) := by
  refine pi1 fn130 ?_
  (repeat' first | (refine Owe.same ?_; first | refine Owe.o ?_ | refine Owe.mk ?_ ?_) | (refine Fork.same ?_; (first | refine fkD ?_ ?_ | refine fkN ?_ ?_ | refine fkM ?_ ?_) <;> intro h) | refine MvQ.stay ?_)
  (refine rqK rfl ?_; (repeat' first | exact rfl | (refine qS ?_; constructor)))
theorem C68 : PFD Tryz.prog 68 [] (scv exS) := by
  refine pi1 fn68 ?_
  (repeat' first | (refine Owe.same ?_; first | refine Owe.o ?_ | refine Owe.mk ?_ ?_) | (refine Fork.same ?_; (first | refine fkD ?_ ?_ | refine fkN ?_ ?_ | refine fkM ?_ ?_) <;> intro h) | ((first | refine OpsL.same ?_ | refine OpsDL.same ?_); first | refine pK C130 rfl rfl ?_) | refine MvQ.stay ?_)
  (refine rqK rfl ?_; (repeat' first | exact rfl | (refine qS ?_; constructor)))
theorem C70 : PFD Tryz.prog 70 [] (sev exQ) := by
  refine pi1 fn70 ?_
  (repeat' first | (refine Owe.same ?_; first | refine Owe.o ?_ | refine Owe.mk ?_ ?_) | (refine Fork.same ?_; (first | refine fkD ?_ ?_ | refine fkN ?_ ?_ | refine fkM ?_ ?_) <;> intro h) | ((first | refine OpsL.same ?_ | refine OpsDL.same ?_); first | refine pK C130 rfl rfl ?_) | refine MvQ.stay ?_)
  (refine rqK rfl ?_; (repeat' first | exact rfl | (refine qS ?_; constructor)))
theorem C19 {a b : Tn} : (a.2.length ≤ 1000000) → PFD Tryz.prog 19 [tv a, tv b] (vbl (decide (a = b))) := fun h => by
  obtain ⟨a1, a2⟩ := a
  obtain ⟨b1, b2⟩ := b
  refine pi1 fn19 ?_
  (repeat' first | (refine Owe.same ?_; first | refine Owe.o ?_ | refine Owe.mk ?_ ?_) | (refine Fork.same ?_; (first | refine fkD ?_ ?_ | refine fkN ?_ ?_ | refine fkM ?_ ?_) <;> intro h) | ((first | refine OpsL.same ?_ | refine OpsDL.same ?_); first | refine pK C22 rfl rfl ?_) | refine MvQ.stay ?_)
  · have h : a1 = b1 := h
    subst h
    (refine rqK rfl ?_; (repeat' first | exact rfl | (refine qS ?_; constructor)))
    simp
  · have h : ¬ a1 = b1 := h
    (refine rqK rfl ?_; (repeat' first | exact rfl | (refine qS ?_; constructor)))
    simp [h]
theorem C10 : PFD Tryz.prog 10 [] (vbl true) := by
  have c1 := C17 (l := exD) (by decide)
  have c2 := C66 (T := exT) (S := exU) (lim := 9) (by decide)
  have c3 := C37 (l := exY) (T := 4) (by decide)
  have c4 := C57 (s := exS) (by decide)
  have c5 := C69 (s := exS) (by decide)
  have c6 := C45 (x := exQ) (by decide)
  rw [show shR exD = ((9, [0, 5, 0]), 0) by decide +kernel] at c1
  rw [show ecE exT exU 9 = 0 by decide +kernel, if_pos rfl, show ecL exT exU 9 = [1] by decide +kernel] at c2
  rw [show dpS exY 4 = ((17, 22), 0) by decide +kernel] at c3
  rw [show (scE exS).2 = 0 by decide +kernel, if_pos rfl, show stS exS [] = [1, 1, 0, 0, 1, 1, 1, 3] by decide +kernel] at c4
  rw [show (scE exS).2 = 0 by decide +kernel, if_pos rfl, show (bestK (odC exS) exS.2.2.length (2 ^ exS.2.2.length)).l = [0] by decide +kernel] at c5
  rw [show (seE exQ).2 = 0 by decide +kernel, if_pos rfl, if_pos rfl, if_pos rfl, show (cvB exQ).l = [0, 2] by decide +kernel, show (cvB exQ).p = 8 by decide +kernel, show (cvB exQ).ok = true by decide +kernel] at c6
  have c7 := C19 (a := (9, [0, 5, 0])) (b := (9, [0, 5, 0])) (by decide)
  have c8 := C22 (l := [1]) (m := [1]) (by decide)
  have c9 := C22 (l := [1, 1, 0, 0, 1, 1, 1, 3]) (m := [1, 1, 0, 0, 1, 1, 1, 3]) (by decide)
  have c10 := C22 (l := [0]) (m := [0]) (by decide)
  have c11 := C22 (l := [0, 2]) (m := [0, 2]) (by decide)
  rw [decide_eq_true rfl] at c7 c8 c9 c10 c11
  refine pi1 fn10 ?_
  (repeat' first | (refine Owe.same ?_; first | refine Owe.o ?_ | refine Owe.mk ?_ ?_) | (refine Fork.same ?_; (first | refine fkY ?_ | refine fkF ?_ | ((first | refine fkD ?_ ?_ | refine fkN ?_ ?_ | refine fkM ?_ ?_) <;> intro h))) | ((first | refine OpsL.same ?_ | refine OpsDL.same ?_); first | refine pK C65 rfl rfl ?_ | refine pK C67 rfl rfl ?_ | refine pK C68 rfl rfl ?_ | refine pK C70 rfl rfl ?_ | refine pK c1 rfl rfl ?_ | refine pK c2 rfl rfl ?_ | refine pK c3 rfl rfl ?_ | refine pK c4 rfl rfl ?_ | refine pK c5 rfl rfl ?_ | refine pK c6 rfl rfl ?_ | refine pK c7 rfl rfl ?_) | refine MvQ.stay ?_)
  ((first | refine OpsL.same ?_ | refine OpsDL.same ?_); first | refine pK c8 rfl rfl ?_)
  (repeat' first | (refine Owe.same ?_; first | refine Owe.o ?_ | refine Owe.mk ?_ ?_) | (refine Fork.same ?_; (first | refine fkY ?_ | refine fkF ?_ | ((first | refine fkD ?_ ?_ | refine fkN ?_ ?_ | refine fkM ?_ ?_) <;> intro h))) | ((first | refine OpsL.same ?_ | refine OpsDL.same ?_); first | refine pK c7 rfl rfl ?_) | refine MvQ.stay ?_)
  ((first | refine OpsL.same ?_ | refine OpsDL.same ?_); first | refine pK c9 rfl rfl ?_)
  (repeat' first | (refine Owe.same ?_; first | refine Owe.o ?_ | refine Owe.mk ?_ ?_) | (refine Fork.same ?_; (first | refine fkY ?_ | refine fkF ?_ | ((first | refine fkD ?_ ?_ | refine fkN ?_ ?_ | refine fkM ?_ ?_) <;> intro h))) | ((first | refine OpsL.same ?_ | refine OpsDL.same ?_); first | refine pK c7 rfl rfl ?_) | refine MvQ.stay ?_)
  ((first | refine OpsL.same ?_ | refine OpsDL.same ?_); first | refine pK c10 rfl rfl ?_)
  (repeat' first | (refine Owe.same ?_; first | refine Owe.o ?_ | refine Owe.mk ?_ ?_) | (refine Fork.same ?_; (first | refine fkY ?_ | refine fkF ?_ | ((first | refine fkD ?_ ?_ | refine fkN ?_ ?_ | refine fkM ?_ ?_) <;> intro h))) | ((first | refine OpsL.same ?_ | refine OpsDL.same ?_); first | refine pK c7 rfl rfl ?_) | refine MvQ.stay ?_)
  ((first | refine OpsL.same ?_ | refine OpsDL.same ?_); first | refine pK c11 rfl rfl ?_)
  (repeat' first | (refine Owe.same ?_; first | refine Owe.o ?_ | refine Owe.mk ?_ ?_) | (refine Fork.same ?_; (first | refine fkY ?_ | refine fkF ?_ | ((first | refine fkD ?_ ?_ | refine fkN ?_ ?_ | refine fkM ?_ ?_) <;> intro h))) | ((first | refine OpsL.same ?_ | refine OpsDL.same ?_); first | refine pK c7 rfl rfl ?_) | refine MvQ.stay ?_)
  (refine rqK rfl ?_; (repeat' first | exact rfl | (refine qS ?_; constructor)))
end Go.Pw

set_option linter.unusedSimpArgs false
set_option linter.unusedVariables false
namespace Go.Pw
set_option maxRecDepth 2000
open Go Go.Proofs A1 A2 A3 A4
end Go.Pw

set_option linter.unusedSimpArgs false
set_option linter.unusedVariables false
namespace Go.Pw
set_option maxRecDepth 2000
open Go Go.Proofs A1 A2 A3 A4
end Go.Pw

set_option linter.unusedSimpArgs false
set_option linter.unusedVariables false
namespace Go.Pw
set_option maxRecDepth 2000
open Go Go.Proofs A1 A2 A3 A4
end Go.Pw

set_option linter.unusedSimpArgs false
set_option linter.unusedVariables false
namespace Go.Pw
set_option maxRecDepth 2000
open Go Go.Proofs A1 A2 A3 A4
end Go.Pw

set_option linter.unusedSimpArgs false
set_option linter.unusedVariables false
namespace Go.Pw
set_option maxRecDepth 2000
open Go Go.Proofs A1 A2 A3 A4
theorem C90 {n : Int} : (-4611686018427387904 ≤ n ∧ n ≤ 4611686018427387904) → PFD Tryz.prog 90 [vi .i64 n] (vi .i64 (max n (-n))) := fun h => by
  refine pi1 fn90 ?_
  (repeat' first | (refine Owe.same ?_; first | refine Owe.o ?_ | refine Owe.mk ?_ ?_) | (refine Fork.same ?_; (first | refine fkD ?_ ?_ | refine fkN ?_ ?_ | refine fkM ?_ ?_) <;> intro h) | refine MvQ.stay ?_)
  (refine rqK rfl ?_; (repeat' first | exact rfl | (refine qS ?_; constructor)))
end Go.Pw

set_option linter.unusedSimpArgs false
set_option linter.unusedVariables false
namespace Go.Pw
set_option maxRecDepth 2000
open Go Go.Proofs A1 A2 A3 A4
end Go.Pw

set_option linter.unusedSimpArgs false
set_option linter.unusedVariables false
namespace Go.Pw
set_option maxRecDepth 2000
open Go Go.Proofs A1 A2 A3 A4
end Go.Pw

set_option linter.unusedSimpArgs false
set_option linter.unusedVariables false
namespace Go.Pw
set_option maxRecDepth 2000
open Go Go.Proofs A1 A2 A3 A4
end Go.Pw

set_option linter.unusedVariables false
set_option maxHeartbeats 2000000
set_option maxRecDepth 100000
namespace Go.Pw
open Go Go.Proofs
end Go.Pw

set_option linter.unusedSimpArgs false
set_option linter.unusedVariables false
namespace Go.Pw
set_option maxRecDepth 2000
open Go Go.Proofs A1 A2 A3 A4
end Go.Pw

set_option linter.unusedSimpArgs false
set_option linter.unusedVariables false
namespace Go.Pw
set_option maxRecDepth 2000
open Go Go.Proofs A1 A2 A3 A4
theorem cmpI_z0 {a b : Int} : cmpI a b = 0 ↔ a = b := by rw [cmpI]; split <;> (try split) <;> omega
end Go.Pw

set_option linter.unusedSimpArgs false
set_option linter.unusedVariables false
set_option maxHeartbeats 1000000
namespace Go.Pw
set_option maxRecDepth 2000
open Go Go.Proofs A1 A2 A3 A4
end Go.Pw

set_option linter.unusedSimpArgs false
set_option linter.unusedVariables false
namespace Go.Pw
set_option maxRecDepth 2000
open Go Go.Proofs A1 A2 A3 A4
end Go.Pw

set_option linter.unusedSimpArgs false
set_option linter.unusedVariables false
set_option maxHeartbeats 1000000
namespace Go.Pw
set_option maxRecDepth 2000
open Go Go.Proofs A1 A2 A3 A4
end Go.Pw

set_option linter.unusedSimpArgs false
set_option linter.unusedVariables false
namespace Go.Pw
set_option maxRecDepth 2000
open Go Go.Proofs A1 A2 A3 A4
end Go.Pw

set_option linter.unusedSimpArgs false
set_option linter.unusedVariables false
set_option maxHeartbeats 1000000
namespace Go.Pw
set_option maxRecDepth 2000
open Go Go.Proofs A1 A2 A3 A4
end Go.Pw

set_option linter.unusedSimpArgs false
set_option linter.unusedVariables false
set_option maxHeartbeats 4000000
namespace Go.Pw
set_option maxRecDepth 2000
open Go Go.Proofs A1 A2 A3 A4
end Go.Pw

set_option linter.unusedSimpArgs false
set_option linter.unusedVariables false
namespace Go.Pw
set_option maxRecDepth 2000
open Go Go.Proofs A1 A2 A3 A4
end Go.Pw

set_option linter.unusedSimpArgs false
set_option linter.unusedVariables false
namespace Go.Pw
set_option maxRecDepth 2000
open Go Go.Proofs A1 A2 A3 A4
end Go.Pw

set_option linter.unusedVariables false
set_option maxHeartbeats 2000000
set_option maxRecDepth 100000
namespace Go.Pw
open Go Go.Proofs
end Go.Pw

set_option linter.unusedSimpArgs false
set_option linter.unusedVariables false
set_option maxHeartbeats 1000000
namespace Go.Pw
set_option maxRecDepth 2000
open Go Go.Proofs A1 A2 A3 A4
end Go.Pw

set_option linter.unusedSimpArgs false
set_option linter.unusedVariables false
set_option maxHeartbeats 1000000
namespace Go.Pw
set_option maxRecDepth 2000
open Go Go.Proofs A1 A2 A3 A4
end Go.Pw

set_option linter.unusedSimpArgs false
set_option linter.unusedVariables false
set_option maxHeartbeats 1000000
namespace Go.Pw
set_option maxRecDepth 2000
open Go Go.Proofs A1 A2 A3 A4
end Go.Pw

set_option linter.unusedSimpArgs false
set_option linter.unusedVariables false
set_option maxHeartbeats 2000000
namespace Go.Pw
set_option maxRecDepth 2000
open Go Go.Proofs A1 A2 A3 A4
end Go.Pw

set_option linter.unusedSimpArgs false
set_option linter.unusedVariables false
namespace Go.Pw
set_option maxRecDepth 2000
open Go Go.Proofs A1 A2 A3 A4
/-- The value of digits, the lowest one first. -/
def valD : List Int → Int
  | [] => 0
  | d :: l => d + 1000000000 * valD l
/-- Digits. -/
abbrev dOk (l : List Int) : Prop := ∀ i, i < l.length → 0 ≤ l.getD i 0 ∧ l.getD i 0 < 1000000000
/-- Digits without zeros at the end. -/
def trm : List Int → List Int
  | [] => []
  | d :: l => match trm l with
    | [] => if d = 0 then [] else [d]
    | t => d :: t
/-- The digits of a number. -/
def dgs (n : Nat) : List Int := if n = 0 then [] else ((n % 1000000000 : Nat) : Int) :: dgs (n / 1000000000)
theorem dgs_zero : dgs 0 = [] := by rw [dgs]; rfl
theorem dgs_pos {n : Nat} (h : n ≠ 0) : dgs n = ((n % 1000000000 : Nat) : Int) :: dgs (n / 1000000000) := by rw [dgs, if_neg h]
theorem dOk_nil : dOk [] := fun i hi => by simp at hi
theorem dOk_cons {d : Int} {l : List Int} : dOk (d :: l) ↔ (0 ≤ d ∧ d < 1000000000) ∧ dOk l := by
  constructor
  · intro h
    refine ⟨h 0 (by simp), fun i hi => ?_⟩
    have := h (i + 1) (by simp; omega)
    simpa using this
  · rintro ⟨h1, h2⟩ i hi
    cases i with
    | zero => exact h1
    | succ i =>
      have := h2 i (by simpa using hi)
      simpa using this
theorem valD_nn : ∀ {l : List Int}, dOk l → 0 ≤ valD l
  | [], _ => Int.le_refl _
  | d :: l, h => by
    obtain ⟨h1, h2⟩ := dOk_cons.1 h
    have := valD_nn h2
    rw [valD]; omega
theorem dgs_eq_nil {n : Nat} : dgs n = [] ↔ n = 0 := by
  constructor
  · intro h
    rw [dgs] at h
    split at h
    · assumption
    · cases h
  · rintro rfl; exact dgs_zero
theorem trm_eq : ∀ {l : List Int}, dOk l → trm l = dgs (valD l).toNat
  | [], _ => by rw [trm, valD]; exact dgs_zero.symm
  | d :: l, h => by
    obtain ⟨h1, h2⟩ := dOk_cons.1 h
    have ih := trm_eq h2
    have hn := valD_nn h2
    rw [trm, valD, ih]
    obtain ⟨v, hv⟩ : ∃ v : Nat, valD l = v := ⟨(valD l).toNat, by omega⟩
    obtain ⟨e, he⟩ : ∃ e : Nat, d = e := ⟨d.toNat, by omega⟩
    subst he
    rw [hv, Int.toNat_natCast]
    rw [show ((e : Int) + 1000000000 * (v : Int)).toNat = e + 1000000000 * v by omega]
    by_cases hv0 : v = 0
    · subst hv0
      rw [dgs_zero]
      simp only
      split
      · rename_i h0
        rw [show e + 1000000000 * 0 = 0 by omega, dgs_zero]
      · rename_i h0
        rw [dgs_pos (by omega), show (e + 1000000000 * 0) / 1000000000 = 0 by omega, dgs_zero, show (e + 1000000000 * 0) % 1000000000 = e by omega]
    · rw [dgs_pos (n := e + 1000000000 * v) (by omega), show (e + 1000000000 * v) / 1000000000 = v by omega, show (e + 1000000000 * v) % 1000000000 = e by omega]
      cases hd : dgs v with
      | nil => exact absurd (dgs_eq_nil.1 hd) hv0
      | cons x t => rfl
theorem dgs_ok : ∀ n, dOk (dgs n) ∧ valD (dgs n) = n := fun n => by
  induction n using Nat.strongRecOn with
  | ind n ih =>
    by_cases h : n = 0
    · subst h; rw [dgs_zero]; exact ⟨dOk_nil, rfl⟩
    · obtain ⟨h1, h2⟩ := ih (n / 1000000000) (by omega)
      rw [dgs_pos h]
      refine ⟨dOk_cons.2 ⟨by omega, h1⟩, ?_⟩
      rw [valD, h2]; omega
theorem dgs_len {n : Nat} : n < 1000000000 ^ (dgs n).length := by
  induction n using Nat.strongRecOn with
  | ind n ih =>
    by_cases h : n = 0
    · subst h; rw [dgs_zero]; decide
    · have := ih (n / 1000000000) (by omega)
      rw [dgs_pos h, List.length_cons, Nat.pow_succ]
      omega
theorem dgs_lo {n : Nat} (h : n ≠ 0) : 1000000000 ^ ((dgs n).length - 1) ≤ n := by
  induction n using Nat.strongRecOn with
  | ind n ih =>
    rw [dgs_pos h, List.length_cons, Nat.add_sub_cancel]
    by_cases h1 : n / 1000000000 = 0
    · rw [h1, dgs_zero]; simp; omega
    · have h2 := ih (n / 1000000000) (by omega) h1
      obtain ⟨k, hk⟩ : ∃ k, (dgs (n / 1000000000)).length = k + 1 := ⟨(dgs (n / 1000000000)).length - 1, by
        have : (dgs (n / 1000000000)).length ≠ 0 := fun hz => h1 (dgs_eq_nil.1 (List.eq_nil_of_length_eq_zero hz))
        omega⟩
      rw [hk, Nat.add_sub_cancel] at h2
      rw [hk, Nat.pow_succ]
      omega
/-- Fewer digits: less. -/
theorem dgs_short {m n : Nat} (h : (dgs m).length < (dgs n).length) : m < n := by
  have hn : n ≠ 0 := fun h0 => by subst h0; rw [dgs_zero] at h; simp at h
  have h1 := dgs_len (n := m)
  have h2 := dgs_lo hn
  have h3 : 1000000000 ^ (dgs m).length ≤ 1000000000 ^ ((dgs n).length - 1) := Nat.pow_le_pow_right (by decide) (by omega)
  omega
theorem dgs_inj {m n : Nat} (h : dgs m = dgs n) : m = n := by
  have h1 := (dgs_ok m).2
  rw [h, (dgs_ok n).2] at h1
  omega
theorem valD_app : ∀ {l m : List Int}, valD (l ++ m) = valD l + 1000000000 ^ l.length * valD m
  | [], m => by simp [valD]
  | d :: l, m => by
    rw [List.cons_append, valD, valD, valD_app (l := l), List.length_cons, Int.pow_succ]
    grind
theorem dOk_app {l m : List Int} : dOk (l ++ m) ↔ dOk l ∧ dOk m := by
  induction l with
  | nil => exact ⟨fun h => ⟨dOk_nil, h⟩, fun h => h.2⟩
  | cons d l ih => rw [List.cons_append, dOk_cons, dOk_cons, ih, and_assoc, and_assoc, and_assoc]
theorem powI_pos (k : Nat) : (0 : Int) < 1000000000 ^ k := Int.pow_pos (by decide)
theorem valD_lt : ∀ {l : List Int}, dOk l → valD l < 1000000000 ^ l.length
  | [], _ => by decide
  | d :: l, h => by
    obtain ⟨h1, h2⟩ := dOk_cons.1 h
    have ih := valD_lt h2
    rw [valD, List.length_cons, Int.pow_succ]
    omega
theorem valD_drop {l : List Int} {k : Nat} (h : k < l.length) : valD (l.drop k) = l.getD k 0 + 1000000000 * valD (l.drop (k + 1)) := by
  rw [List.drop_eq_getElem_cons h, valD, List.getD_eq_getElem?_getD, List.getElem?_eq_getElem h]; rfl
theorem dOk_drop {l : List Int} {k : Nat} (h : dOk l) : dOk (l.drop k) := by
  have := h
  rw [← List.take_append_drop k l, dOk_app] at this
  exact this.2
theorem dOk_take {l : List Int} {k : Nat} (h : dOk l) : dOk (l.take k) := by
  have := h
  rw [← List.take_append_drop k l, dOk_app] at this
  exact this.1
theorem valD_take {l : List Int} {k : Nat} (h : k < l.length) : valD (l.take (k + 1)) = valD (l.take k) + 1000000000 ^ k * l.getD k 0 := by
  rw [List.take_succ_eq_append_getElem h, valD_app, List.length_take, Nat.min_eq_left (by omega), valD, valD, List.getD_eq_getElem?_getD, List.getElem?_eq_getElem h]
  simp
theorem valD_set : ∀ {l : List Int} {k : Nat} {v : Int}, k < l.length → valD (l.set k v) = valD l + (v - l.getD k 0) * 1000000000 ^ k
  | [], _, _, h => by simp at h
  | d :: l, 0, v, _ => by simp [valD]; omega
  | d :: l, k + 1, v, h => by
    rw [List.set_cons_succ, valD, valD, valD_set (l := l) (by simpa using h), Int.pow_succ]
    simp only [List.getD_cons_succ]
    grind
theorem dOk_set {l : List Int} {k : Nat} {v : Int} (h : dOk l) (hv : 0 ≤ v ∧ v < 1000000000) : dOk (l.set k v) := fun i hi => by
  rw [List.length_set] at hi
  by_cases hk : k < l.length
  · simp only [List.getD_eq_getElem?_getD, List.getElem?_set]
    split
    · rename_i e; subst e; simp [hk, hv]
    · have := h i hi
      simpa only [List.getD_eq_getElem?_getD] using this
  · rw [List.set_eq_of_length_le (by omega)]; exact h i hi
/-- The last digits: 0, if they are the only ones. -/
theorem dgs_top {n : Nat} {k : Nat} (h : k < (dgs n).length) : 0 < valD ((dgs n).drop k) := by
  induction n using Nat.strongRecOn generalizing k with
  | ind n ih =>
    by_cases h0 : n = 0
    · subst h0; rw [dgs_zero] at h; simp at h
    · cases k with
      | zero => rw [List.drop_zero, (dgs_ok n).2]; omega
      | succ k =>
        rw [dgs_pos h0] at h ⊢
        rw [List.drop_succ_cons]
        exact ih (n / 1000000000) (by omega) (by simpa using h)
/-- Digits compared from the last one on. -/
theorem valD_cmp {l m : List Int} {k : Nat} (hl : dOk l) (hm : dOk m) (hlen : l.length = m.length) (hk : k < l.length) (he : l.drop (k + 1) = m.drop (k + 1)) (hlt : l.getD k 0 < m.getD k 0) : valD l < valD m := by
  have e1 : valD l = valD (l.take k) + 1000000000 ^ k * valD (l.drop k) := by
    have := valD_app (l := l.take k) (m := l.drop k)
    rwa [List.take_append_drop, List.length_take, Nat.min_eq_left (by omega)] at this
  have e2 : valD m = valD (m.take k) + 1000000000 ^ k * valD (m.drop k) := by
    have := valD_app (l := m.take k) (m := m.drop k)
    rwa [List.take_append_drop, List.length_take, Nat.min_eq_left (by omega)] at this
  have h1 := valD_lt (dOk_take (k := k) hl)
  rw [List.length_take, Nat.min_eq_left (by omega)] at h1
  have h2 := valD_nn (dOk_take (k := k) hm)
  rw [e1, e2, valD_drop hk, valD_drop (l := m) (k := k) (by omega), he]
  have h3 : (1000000000 : Int) ^ k * (l.getD k 0 + 1000000000 * valD (m.drop (k + 1)) + 1) ≤ 1000000000 ^ k * (m.getD k 0 + 1000000000 * valD (m.drop (k + 1))) := Int.mul_le_mul_of_nonneg_left (by omega) (Int.le_of_lt (powI_pos k))
  rw [Int.mul_add, Int.mul_one] at h3
  omega
/-- A trimmed list is a beginning. -/
theorem trm_take : ∀ {l : List Int} {n : Nat}, n ≤ l.length → (∀ i, n ≤ i → i < l.length → l.getD i 0 = 0) → (n = 0 ∨ l.getD (n - 1) 0 ≠ 0) → trm l = l.take n
  | [], n, hn, _, _ => by simp [trm]
  | d :: l, 0, _, hz, _ => by
    have ih := trm_take (l := l) (n := 0) (Nat.zero_le _) (fun i _ hi => by
      have := hz (i + 1) (Nat.zero_le _) (by simp; omega)
      simpa using this) (.inl rfl)
    have h0 : d = 0 := hz 0 (Nat.le_refl _) (by simp)
    rw [trm, ih, List.take_zero, List.take_zero]
    simp [h0]
  | d :: l, n + 1, hn, hz, hl => by
    have hl : (d :: l).getD n 0 ≠ 0 := by simpa using hl
    have ih := trm_take (l := l) (n := n) (by simpa using hn) (fun i h1 hi => by
      have := hz (i + 1) (by omega) (by simp; omega)
      simpa using this) (by
      cases n with
      | zero => exact .inl rfl
      | succ n => right; simpa using hl)
    rw [trm, ih, List.take_succ_cons]
    cases n with
    | zero =>
      have : d ≠ 0 := by simpa using hl
      simp [this]
    | succ n =>
      cases l with
      | nil => simp at hn
      | cons x l => rfl
end Go.Pw

set_option linter.unusedVariables false
namespace Go.Pw
open Go Go.RowKit
section
variable {P : Program} {N base : Nat}
theorem nmAt_nil (base : Nat) : nmAt base [] = id := by
  funext i
  unfold nmAt
  split <;> rfl
/-- What a function does to the store that it is given, from its code. -/
theorem CallD.of [m : Mix P] {f : FuncId} {lc : LCode} {rl : List RL} {args vs : List V} {σ σ' : Store} {nx nx' : Nat} (hf : FnOk P f N lc rl) (hN : Nat.ble args.length N = true) (hle : Nat.ble nx nx' = true) (hin : Is nx ⟨argEnv 0 args, σ, nx⟩ ⟨argEnv 0 args, σ, nx⟩ [])
    (h : wp P N nx lc ⟨argEnv 0 args, σ, nx⟩ (RetQ nx rl vs σ' nx')) : CallD P f args σ nx (retV vs) σ' nx' := by
  obtain ⟨hent, own, fn, h1, h2⟩ := hf
  have := hin.wk
  rw [nmAt_nil] at this
  exact CallD.enter h1 hent h2 (Nat.le_of_ble_eq_true hN) (Nat.le_of_ble_eq_true hle) this (Sat.of h)
theorem RetQ.is {nx nx' : Nat} {rl : List RL} {vs : List V} {σ' : Store} {e : Exit} {env : List (Nat × V)} (hres : resAll env σ' rl = some vs) (he : e = .normal ∨ e = .ret := by first | exact .inr rfl | exact .inl rfl) : RetQ nx rl vs σ' nx' e ⟨env, σ', nx'⟩ :=
  ⟨he, vs, hres, rfl, Mv.refl _ _⟩
end
end Go.Pw

set_option linter.unusedSimpArgs false
set_option linter.unusedVariables false
set_option maxHeartbeats 1000000
namespace Go.Pw
set_option maxRecDepth 2000
open Go Go.Proofs A1 A2 A3 A4
theorem C163 {l : List Int} : l.length ≤ 1000000 → PFD Tryz.prog 163 [.c (ints l)] (.c (ints (trm l))) := fun hl => by
  refine pi1 fn163 ?_
  (repeat' first | (refine Owe.same ?_; first | refine Owe.o ?_ | refine Owe.mk ?_ ?_) | (refine Fork.same ?_; (first | refine fkD ?_ ?_ | refine fkN ?_ ?_ | refine fkM ?_ ?_) <;> intro h) | refine MvQ.stay ?_)
  refine Sat.lp0 (fun n : Nat => [(3, vi .i64 n), (0, .c (ints l))]) (fun n => n ≤ l.length ∧ ∀ i, n ≤ i → i < l.length → l.getD i 0 = 0) (fun n => n) l.length ⟨Nat.le_refl _, fun i h1 h2 => by omega⟩ (by ((first | refine qen ?_ | refine qvs ?_ | refine qeq ?_ | refine qst ?_ | refine qv ?_ | refine qc ?_ | refine qe ?_ | refine qcs ?_ | skip); (repeat' first | exact rfl | (refine qS ?_; constructor)))) ?_
  intro n hn
  (repeat' first | (refine Owe.same ?_; first | refine Owe.o ?_ | refine Owe.mk ?_ ?_) | (refine Fork.same ?_; (first | refine fkD ?_ ?_ | refine fkN ?_ ?_ | refine fkM ?_ ?_) <;> intro h) | refine MvQ.stay ?_)
  · have h : l.getD (n - 1) 0 = 0 := by rw [show ((n : Int) - 1).toNat = n - 1 by omega] at h; exact h
    refine again0 (n - 1) ⟨by omega, fun i h1 h2 => ?_⟩ (by omega) ?_
    · by_cases h3 : i = n - 1
      · rw [h3]; exact h
      · exact hn.2 i (by omega) h2
    · rw [show (((n - 1 : Nat)) : Int) = (n : Int) - 1 by omega]; ((first | refine qen ?_ | refine qvs ?_ | refine qeq ?_ | refine qst ?_ | refine qv ?_ | refine qc ?_ | refine qe ?_ | refine qcs ?_ | skip); (repeat' first | exact rfl | (refine qS ?_; constructor)))
  · rename_i h0
    have h : l.getD (n - 1) 0 ≠ 0 := by rw [show ((n : Int) - 1).toNat = n - 1 by omega] at h; exact h
    rw [trm_take hn.1 hn.2 (.inr h)]
    (repeat' first | (refine Owe.same ?_; first | refine Owe.o ?_ | refine Owe.mk ?_ ?_) | (refine Fork.same ?_; (first | refine fkD ?_ ?_ | refine fkN ?_ ?_ | refine fkM ?_ ?_) <;> intro h) | refine MvQ.stay ?_)
    (refine rqK rfl ?_; (repeat' first | exact rfl | (refine qS ?_; constructor)))
    rw [Int.toNat_natCast]; exact ⟨hn.1, rfl⟩
  · have h : n = 0 := by omega
    subst h
    rw [trm_take hn.1 hn.2 (.inl rfl)]
    (repeat' first | (refine Owe.same ?_; first | refine Owe.o ?_ | refine Owe.mk ?_ ?_) | (refine Fork.same ?_; (first | refine fkD ?_ ?_ | refine fkN ?_ ?_ | refine fkM ?_ ?_) <;> intro h) | refine MvQ.stay ?_)
    (refine rqK rfl ?_; (repeat' first | exact rfl | (refine qS ?_; constructor)))
    rw [Int.toNat_natCast]; exact ⟨hn.1, rfl⟩
/-- A number of any size, as the program holds it. -/
abbrev wv (s : Int) (l : List Int) : V := .agg [int s, ints l]
abbrev wd (z : Int) : V := wv z.sign (dgs z.natAbs)
theorem C179 {l : List Int} {i : Nat} : PFD Tryz.prog 179 [.c (ints l), vi .i64 i] (vi .i64 (l.getD i 0)) := by
  refine pi1 fn179 ?_
  (repeat' first | (refine Owe.same ?_; first | refine Owe.o ?_ | refine Owe.mk ?_ ?_) | (refine Fork.same ?_; (first | refine fkD ?_ ?_ | refine fkN ?_ ?_ | refine fkM ?_ ?_) <;> intro h) | refine MvQ.stay ?_)
  · (refine rqK rfl ?_; (repeat' first | exact rfl | (refine qS ?_; constructor)))
  · (refine rqK rfl ?_; (repeat' first | exact rfl | (refine qS ?_; constructor)))
    rw [List.getD_eq_getElem?_getD, List.getElem?_eq_none (by omega)]; rfl
theorem C164 {m n : Nat} : ((dgs m).length ≤ 1000 ∧ (dgs n).length ≤ 1000) → PFD Tryz.prog 164 [.c (ints (dgs m)), .c (ints (dgs n))] (vi .i64 (cmpI m n)) := fun ⟨hm, hn⟩ => by
  obtain ⟨q, hq⟩ : ∃ q, q = cmpI m n := ⟨_, rfl⟩
  rw [← hq]
  obtain ⟨hmo, hmv⟩ := dgs_ok m
  obtain ⟨hno, hnv⟩ := dgs_ok n
  have s1 := dgs_short (m := m) (n := n)
  have s2 := dgs_short (m := n) (n := m)
  generalize hL : dgs m = l at *
  generalize hM : dgs n = k at *
  have q1 : m < n → q = -1 := fun h => by rw [hq, cmpI, if_pos (by omega)]
  have q2 : n < m → q = 1 := fun h => by rw [hq, cmpI, if_neg (by omega), if_pos (by omega)]
  by_cases hlen : l.length = k.length
  · refine pi1 fn164 ?_
    (repeat' first | (refine Owe.same ?_; first | refine Owe.o ?_ | refine Owe.mk ?_ ?_) | (refine Fork.same ?_; (first | refine fkY ?_ | refine fkF ?_ | ((first | refine fkD ?_ ?_ | refine fkN ?_ ?_ | refine fkM ?_ ?_) <;> intro h))) | ((first | refine OpsL.same ?_ | refine OpsDL.same ?_); first | refine oK C163 rfl rfl rfl ?_) | refine MvQ.stay ?_)
    refine Sat.lp0 (fun i : Nat => [(5, vi .i64 ((i : Int) - 1)), (0, .c (ints l)), (1, .c (ints k))]) (fun i => i ≤ l.length ∧ l.drop i = k.drop i) (fun i => i) l.length ⟨Nat.le_refl _, by rw [List.drop_of_length_le (Nat.le_refl _), List.drop_of_length_le (by omega)]⟩ (by ((first | refine qen ?_ | refine qvs ?_ | refine qeq ?_ | refine qst ?_ | refine qv ?_ | refine qc ?_ | refine qe ?_ | refine qcs ?_ | skip); (repeat' first | exact rfl | (refine qS ?_; constructor)))) ?_
    intro i hi
    rcases Nat.eq_zero_or_pos i with h0 | h0
    · subst h0
      have e : l = k := by simpa using hi.2
      have : m = n := dgs_inj (by rw [hL, hM, e])
      have : q = 0 := by rw [hq, cmpI_z0]; omega
      rw [this]
      (repeat' first | (refine Owe.same ?_; first | refine Owe.o ?_ | refine Owe.mk ?_ ?_) | (refine Fork.same ?_; (first | refine fkY ?_ | refine fkF ?_ | ((first | refine fkD ?_ ?_ | refine fkN ?_ ?_ | refine fkM ?_ ?_) <;> intro h))) | ((first | refine OpsL.same ?_ | refine OpsDL.same ?_); first | refine oK C163 rfl rfl rfl ?_) | refine MvQ.stay ?_)
      (refine rqK rfl ?_; (repeat' first | exact rfl | (refine qS ?_; constructor)))
    · obtain ⟨j, rfl⟩ : ∃ j, i = j + 1 := ⟨i - 1, by omega⟩
      have e1 : ((j + 1 : Nat) : Int) - 1 = j := by omega
      rw [e1]
      have g1 : l.getD j 0 < k.getD j 0 → q = -1 := fun h => q1 (by
        have := valD_cmp hmo hno hlen (by omega) hi.2 h
        omega)
      have g2 : k.getD j 0 < l.getD j 0 → q = 1 := fun h => q2 (by
        have := valD_cmp hno hmo hlen.symm (by omega) hi.2.symm h
        omega)
      (repeat' first | (refine Owe.same ?_; first | refine Owe.o ?_ | refine Owe.mk ?_ ?_) | (refine Fork.same ?_; (first | refine fkY ?_ | refine fkF ?_ | ((first | refine fkD ?_ ?_ | refine fkN ?_ ?_ | refine fkM ?_ ?_) <;> intro h))) | ((first | refine OpsL.same ?_ | refine OpsDL.same ?_); first | refine oK C163 rfl rfl rfl ?_) | refine MvQ.stay ?_)
      · rw [g1 h]
        (refine rqK rfl ?_; (repeat' first | exact rfl | (refine qS ?_; constructor)))
      · rw [g2 h]
        (refine rqK rfl ?_; (repeat' first | exact rfl | (refine qS ?_; constructor)))
      · rename_i h8
        refine again0 j ⟨by omega, ?_⟩ (by omega) (by ((first | refine qen ?_ | refine qvs ?_ | refine qeq ?_ | refine qst ?_ | refine qv ?_ | refine qc ?_ | refine qe ?_ | refine qcs ?_ | skip); (repeat' first | exact rfl | (refine qS ?_; constructor))))
        rw [List.drop_eq_getElem_cons (by omega), List.drop_eq_getElem_cons (i := j) (l := k) (by omega), hi.2]
        congr 1
        have h5 : l.getD j 0 = k.getD j 0 := by
          rw [Int.toNat_natCast] at h8 h
          omega
        simpa [List.getD_eq_getElem?_getD, List.getElem?_eq_getElem (show j < l.length by omega), List.getElem?_eq_getElem (show j < k.length by omega)] using h5
  · refine pi1 fn164 ?_
    (repeat' first | (refine Owe.same ?_; first | refine Owe.o ?_ | refine Owe.mk ?_ ?_) | (refine Fork.same ?_; (first | refine fkY ?_ | refine fkF ?_ | ((first | refine fkD ?_ ?_ | refine fkN ?_ ?_ | refine fkM ?_ ?_) <;> intro h))) | ((first | refine OpsL.same ?_ | refine OpsDL.same ?_); first | refine oK C163 rfl rfl rfl ?_) | refine MvQ.stay ?_)
    · rw [q1 (s1 (by omega))]
      (refine rqK rfl ?_; (repeat' first | exact rfl | (refine qS ?_; constructor)))
    · rw [q2 (s2 (by omega))]
      (refine rqK rfl ?_; (repeat' first | exact rfl | (refine qS ?_; constructor)))
/-- Few digits. -/
abbrev few (n : Nat) : Prop := (dgs n).length ≤ 1000
theorem wv_wd {s : Int} {l : List Int} (hl : dOk l) (hs : s = 1 ∨ s = -1 ∨ s = 0 ∧ valD l = 0) : wv (if (trm l).length = 0 then 0 else s) (trm l) = wd (s * valD l) := by
  have hn := valD_nn hl
  rw [trm_eq hl]
  obtain ⟨v, hv⟩ : ∃ v : Nat, valD l = v := ⟨(valD l).toNat, by omega⟩
  rw [hv, Int.toNat_natCast]
  have e1 : (s * (v : Int)).natAbs = v := by
    rcases hs with rfl | rfl | ⟨rfl, h⟩
    · omega
    · omega
    · omega
  have e2 : (if (dgs v).length = 0 then (0 : Int) else s) = (s * (v : Int)).sign := by
    split
    · rename_i h
      have h := dgs_eq_nil.1 (List.eq_nil_of_length_eq_zero h)
      subst h; simp
    · rename_i h
      have h : v ≠ 0 := fun h0 => by subst h0; rw [dgs_zero] at h; exact h rfl
      rcases hs with rfl | rfl | ⟨rfl, h0⟩
      · rw [Int.one_mul, Int.sign_eq_one_of_pos (by omega)]
      · rw [Int.neg_mul, Int.one_mul, Int.sign_neg, Int.sign_eq_one_of_pos (by omega)]
      · omega
  show wv _ _ = wv _ _
  rw [e1, e2]
theorem C166 {s : Int} {l : List Int} : (l.length ≤ 1000000 ∧ dOk l ∧ (s = 1 ∨ s = -1 ∨ s = 0 ∧ valD l = 0)) → PFD Tryz.prog 166 [vi .i64 s, .c (ints l)] (wd (s * valD l)) := fun ⟨hl, ho, hs⟩ => by
  have c163 := C163 hl
  rw [← wv_wd ho hs]
  obtain ⟨t, ht⟩ : ∃ t, t = trm l := ⟨_, rfl⟩
  rw [← ht] at c163 ⊢
  refine pi1 fn166 ?_
  (repeat' first | (refine Owe.same ?_; first | refine Owe.o ?_ | refine Owe.mk ?_ ?_) | (refine Fork.same ?_; (first | refine fkY ?_ | refine fkF ?_ | ((first | refine fkD ?_ ?_ | refine fkN ?_ ?_ | refine fkM ?_ ?_) <;> intro h))) | ((first | refine OpsL.same ?_ | refine OpsDL.same ?_); first | refine oK c163 rfl rfl rfl ?_) | refine MvQ.stay ?_)
  · have h : t.length = 0 := by omega
    rw [if_pos h]
    (refine rqK rfl ?_; (repeat' first | exact rfl | (refine qS ?_; constructor)))
  · have h : ¬ t.length = 0 := by omega
    rw [if_neg h]
    (refine rqK rfl ?_; (repeat' first | exact rfl | (refine qS ?_; constructor)))
theorem sgn3 (z : Int) : z.sign = 1 ∨ z.sign = -1 ∨ z.sign = 0 := by rcases Int.lt_trichotomy z 0 with h | h | h <;> simp [Int.sign_eq_neg_one_of_neg, Int.sign_eq_one_of_pos, h]
theorem C149v {s : Int} {l : List Int} : (s = 1 ∨ s = -1 ∨ s = 0) → PFD Tryz.prog 149 [wv s l] (wv (-s) l) := fun hs => by
  refine pi1 fn149 ?_
  (repeat' first | (refine Owe.same ?_; first | refine Owe.o ?_ | refine Owe.mk ?_ ?_) | (refine Fork.same ?_; (first | refine fkY ?_ | refine fkF ?_ | ((first | refine fkD ?_ ?_ | refine fkN ?_ ?_ | refine fkM ?_ ?_) <;> intro h))) | ((first | refine OpsL.same ?_ | refine OpsDL.same ?_); first | refine oK C163 rfl rfl rfl ?_) | refine MvQ.stay ?_)
  (refine rqK rfl ?_; (repeat' first | exact rfl | (refine qS ?_; constructor)))
theorem C149 {z : Int} : PFD Tryz.prog 149 [wd z] (wd (-z)) := by
  have h := C149v (l := dgs z.natAbs) (sgn3 z)
  rw [← Int.sign_neg, ← Int.natAbs_neg] at h
  rw [Int.natAbs_neg] at h
  show PFD Tryz.prog 149 [wd z] (wv (-z).sign (dgs (-z).natAbs))
  rw [Int.natAbs_neg]
  exact h
theorem C180 {z : Int} : PFD Tryz.prog 180 [wd z] (vi .i64 z.sign) := by
  have key : ∀ (s : Int) (l : List Int), PFD Tryz.prog 180 [wv s l] (vi .i64 s) := fun s l => by
    refine pi1 fn180 ?_
    (repeat' first | (refine Owe.same ?_; first | refine Owe.o ?_ | refine Owe.mk ?_ ?_) | (refine Fork.same ?_; (first | refine fkY ?_ | refine fkF ?_ | ((first | refine fkD ?_ ?_ | refine fkN ?_ ?_ | refine fkM ?_ ?_) <;> intro h))) | ((first | refine OpsL.same ?_ | refine OpsDL.same ?_); first | refine oK C163 rfl rfl rfl ?_) | refine MvQ.stay ?_)
    (refine rqK rfl ?_; (repeat' first | exact rfl | (refine qS ?_; constructor)))
  exact key _ _
theorem C184 {z : Int} : PFD Tryz.prog 184 [wd z] (wd z.natAbs) := by
  have c149 := C149 (z := z)
  have key : ∀ (s : Int) (l : List Int) (v : V), s < 0 → PFD Tryz.prog 149 [wv s l] v → (v = wv (-s) l) → PFD Tryz.prog 184 [wv s l] (wv (-s) l) := fun s l v hs c hv => by
    rw [hv] at c
    refine pi1 fn184 ?_
    (repeat' first | (refine Owe.same ?_; first | refine Owe.o ?_ | refine Owe.mk ?_ ?_) | (refine Fork.same ?_; (first | refine fkY ?_ | refine fkF ?_ | ((first | refine fkD ?_ ?_ | refine fkN ?_ ?_ | refine fkM ?_ ?_) <;> intro h))) | ((first | refine OpsL.same ?_ | refine OpsDL.same ?_); first | refine oK c rfl rfl rfl ?_) | refine MvQ.stay ?_)
    (refine rqK rfl ?_; (repeat' first | exact rfl | (refine qS ?_; constructor)))
  have key2 : ∀ (s : Int) (l : List Int), 0 ≤ s → PFD Tryz.prog 184 [wv s l] (wv s l) := fun s l hs => by
    refine pi1 fn184 ?_
    (repeat' first | (refine Owe.same ?_; first | refine Owe.o ?_ | refine Owe.mk ?_ ?_) | (refine Fork.same ?_; (first | refine fkY ?_ | refine fkF ?_ | ((first | refine fkD ?_ ?_ | refine fkN ?_ ?_ | refine fkM ?_ ?_) <;> intro h))) | ((first | refine OpsL.same ?_ | refine OpsDL.same ?_); first | refine oK C163 rfl rfl rfl ?_) | refine MvQ.stay ?_)
    (refine rqK rfl ?_; (repeat' first | exact rfl | (refine qS ?_; constructor)))
  by_cases h : z < 0
  · have e : wd ((z.natAbs : Nat) : Int) = wv (-z.sign) (dgs z.natAbs) := by
      show wv _ _ = _
      rw [show ((z.natAbs : Nat) : Int) = -z by omega, Int.sign_neg, Int.natAbs_neg]
    rw [e]
    refine key _ _ _ (by rw [Int.sign_eq_neg_one_of_neg h]; decide) c149 ?_
    show wv _ _ = _
    rw [Int.sign_neg, Int.natAbs_neg]
  · rw [show ((z.natAbs : Nat) : Int) = z by omega]
    refine key2 _ _ ?_
    rcases Int.lt_trichotomy z 0 with h9 | h9 | h9
    · omega
    · rw [h9]; decide
    · rw [Int.sign_eq_one_of_pos h9]; decide
end Go.Pw

set_option linter.unusedSimpArgs false
set_option linter.unusedVariables false
set_option maxHeartbeats 1000000
namespace Go.Pw
set_option maxRecDepth 2000
open Go Go.Proofs A1 A2 A3 A4
theorem C167 {n : Int} : (-9000000000000000000 ≤ n ∧ n ≤ 9000000000000000000) → PFD Tryz.prog 167 [vi .i64 n] (wd n) := fun hn => by
  obtain ⟨s, N, hs, rfl, hs2⟩ : ∃ (s : Int) (N : Nat), (s = 1 ∨ s = -1) ∧ n = s * N ∧ (n < 0 → s = -1) ∧ (¬ n < 0 → s = 1) := by
    by_cases h : n < 0
    · exact ⟨-1, n.natAbs, .inr rfl, by omega, fun _ => rfl, fun h2 => absurd h h2⟩
    · exact ⟨1, n.natAbs, .inl rfl, by omega, fun h2 => absurd h2 h, fun _ => rfl⟩
  have hN : N ≤ 9000000000000000000 := by rcases hs with rfl | rfl <;> omega
  have e1 : ∀ r : Nat, (s * (r : Int)).tmod 1000000000 = s * ((r % 1000000000 : Nat) : Int) := fun r => by
    rcases hs with rfl | rfl
    · rw [Int.one_mul, Int.one_mul, Int.tmod_eq_emod_of_nonneg (by omega)]; omega
    · rw [Int.neg_mul, Int.one_mul, Int.neg_mul, Int.one_mul, Int.neg_tmod, Int.tmod_eq_emod_of_nonneg (by omega)]; omega
  have e2 : ∀ r : Nat, (s * (r : Int)).tdiv 1000000000 = s * ((r / 1000000000 : Nat) : Int) := fun r => by
    rcases hs with rfl | rfl
    · rw [Int.one_mul, Int.one_mul, Int.tdiv_eq_ediv_of_nonneg (by omega)]; omega
    · rw [Int.neg_mul, Int.one_mul, Int.neg_mul, Int.one_mul, Int.neg_tdiv, Int.tdiv_eq_ediv_of_nonneg (by omega)]; omega
  have e3 : ∀ r : Nat, max (s * ((r % 1000000000 : Nat) : Int)) (-(s * ((r % 1000000000 : Nat) : Int))) = ((r % 1000000000 : Nat) : Int) := fun r => by
    rcases hs with rfl | rfl <;> omega
  have hz : ∀ r : Nat, s * (r : Int) = 0 → r = 0 := fun r h => by rcases hs with rfl | rfl <;> omega
  refine pi1 fn167 ?_
  (repeat' first | (refine Owe.same ?_; first | refine Owe.o ?_ | refine Owe.mk ?_ ?_) | (refine Fork.same ?_; (first | refine fkY ?_ | refine fkF ?_ | ((first | refine fkD ?_ ?_ | refine fkN ?_ ?_ | refine fkM ?_ ?_) <;> intro h))) | ((first | refine OpsL.same ?_ | refine OpsDL.same ?_); first | refine oK C163 rfl rfl rfl ?_) | refine MvQ.stay ?_)
  all_goals
    refine Sat.nilS 4 3 1 (fun i => r1 (([] : List Int).getD i 0)) rfl ?_
    refine Sat.lp (fun i : Nat × List Int => ⟨[(0, vi .i64 (s * (i.1 : Int))), (3, vi .i64 s), (2, .c (.bp 1 0)), (4, .c (.ms 0 i.2.length))], [(0, rowv 3 1 r1 0 i.2), (1, .box [int 0, .d (.v (.slice none 0 0))])], 2⟩)
      (fun i => dOk i.2 ∧ valD i.2 + 1000000000 ^ i.2.length * (i.1 : Int) = N ∧ i.2.length ≤ 3) (fun i => i.1) (N, []) [1, 0] ⟨dOk_nil, by simp [valD], Nat.zero_le _⟩ ?_ ?_
    · (refine qis ?_ ?_ <;> (repeat' first | exact rfl | (refine qS ?_; constructor)))
      first | exact (hs2.1 h).symm | exact (hs2.2 h).symm
    rintro ⟨r, acc⟩ ⟨ho, hv, hl⟩
    simp only at ho hv hl
    have e1 := e1 r
    have e2 := e2 r
    have e3 := e3 r
    have hz := hz r
    have hvn := valD_nn ho
    refine Fork.ndec (fun hne => ?_) (fun heq => ?_)
    · have hr : r ≠ 0 := fun h => hne (by rw [h]; simp)
      have hl2 : acc.length ≤ 2 := by
        refine Nat.le_of_not_lt fun hh => ?_
        have : acc.length = 3 := by omega
        rw [this] at hv
        omega
      have c90 := C90 (n := (s * (r : Int)).tmod 1000000000) (by rw [e1]; rcases hs with rfl | rfl <;> omega)
      rw [show max ((s * (r : Int)).tmod 1000000000) (-((s * (r : Int)).tmod 1000000000)) = ((r % 1000000000 : Nat) : Int) by rw [e1, e3]] at c90
      have e4 := Nat.div_add_mod r 1000000000
      have ho2 : dOk (acc ++ [((r % 1000000000 : Nat) : Int)]) := dOk_app.2 ⟨ho, dOk_cons.2 ⟨by omega, dOk_nil⟩⟩
      have hv2 : valD (acc ++ [((r % 1000000000 : Nat) : Int)]) + 1000000000 ^ (acc ++ [((r % 1000000000 : Nat) : Int)]).length * ((r / 1000000000 : Nat) : Int) = N := by
        rw [valD_app, List.length_append, List.length_singleton, Int.pow_succ]
        simp only [valD]
        have : (r : Int) = 1000000000 * ((r / 1000000000 : Nat) : Int) + ((r % 1000000000 : Nat) : Int) := by omega
        rw [← hv, this]
        grind
      have hrN : (r : Int) ≤ N := by
        have := Int.mul_le_mul_of_nonneg_right (show (1 : Int) ≤ 1000000000 ^ acc.length from powI_pos _) (show (0 : Int) ≤ r by omega)
        omega
      have hR : R64 ((s * (r : Int)).tdiv 1000000000) := by rw [e2]; simp only [R64]; rcases hs with rfl | rfl <;> omega
      (repeat' first | (refine Owe.same ?_; first | refine Owe.o ?_ | refine Owe.mk ?_ ?_) | (refine Fork.same ?_; (first | refine fkY ?_ | refine fkF ?_ | ((first | refine fkD ?_ ?_ | refine fkN ?_ ?_ | refine fkM ?_ ?_) <;> intro h))) | ((first | refine OpsL.same ?_ | refine OpsDL.same ?_); first | refine oK c90 rfl rfl rfl ?_) | refine MvQ.stay ?_)
      refine again (r / 1000000000, acc ++ [((r % 1000000000 : Nat) : Int)]) [2, 1] ⟨ho2, hv2, by simp; omega⟩ (by simp only; omega) ?_
      (refine qis ?_ ?_ <;> (repeat' first | exact rfl | (refine qS ?_; constructor)))
      · exact e2
      · simp
    · have hr : r = 0 := hz heq
      subst hr
      rw [show ((0 : Nat) : Int) = 0 by rfl, Int.mul_zero, Int.add_zero] at hv
      have c166 := C166 (s := s) (l := acc) ⟨by omega, ho, by rcases hs with h | h <;> simp [h]⟩
      rw [hv] at c166
      refine MvQ.frz 4 0 rfl rfl (Nat.le_refl _) ?_
      (repeat' first | (refine Owe.same ?_; first | refine Owe.o ?_ | refine Owe.mk ?_ ?_) | (refine Fork.same ?_; (first | refine fkY ?_ | refine fkF ?_ | ((first | refine fkD ?_ ?_ | refine fkN ?_ ?_ | refine fkM ?_ ?_) <;> intro h))) | ((first | refine OpsL.same ?_ | refine OpsDL.same ?_); first | refine oK c166 rfl rfl rfl ?_) | refine MvQ.stay ?_)
      (refine rqK rfl ?_; (repeat' first | exact rfl | (refine qS ?_; constructor)))
theorem valD_drop' {l : List Int} {k : Nat} : valD (l.drop k) = l.getD k 0 + 1000000000 * valD (l.drop (k + 1)) := by
  by_cases h : k < l.length
  · exact valD_drop h
  · rw [List.drop_of_length_le (by omega), List.drop_of_length_le (by omega), List.getD_eq_getElem?_getD, List.getElem?_eq_none (by omega)]; rfl
theorem dOk_get {l : List Int} (h : dOk l) (k : Nat) : 0 ≤ l.getD k 0 ∧ l.getD k 0 < 1000000000 := by
  by_cases hk : k < l.length
  · exact h k hk
  · rw [List.getD_eq_getElem?_getD, List.getElem?_eq_none (by omega)]; decide
theorem C182 {m n : Nat} : ((dgs m).length ≤ 1000 ∧ (dgs n).length ≤ 1000 ∧ (dgs (m + n)).length ≤ 1001) → PFD Tryz.prog 182 [.c (ints (dgs m)), .c (ints (dgs n))] (.c (ints (dgs (m + n)))) := fun ⟨hm, hn, hmn⟩ => by
  obtain ⟨hmo, hmv⟩ := dgs_ok m
  obtain ⟨hno, hnv⟩ := dgs_ok n
  have t1 := fun k => dgs_top (n := m) (k := k)
  have t2 := fun k => dgs_top (n := n) (k := k)
  have h0 : dgs (m + n) = dgs (valD (dgs m) + valD (dgs n) + 0).toNat := by rw [hmv, hnv]; congr 1
  generalize dgs (m + n) = q at *
  generalize dgs m = a at *
  generalize dgs n = b at *
  refine pi1 fn182 ?_
  (repeat' first | (refine Owe.same ?_; first | refine Owe.o ?_ | refine Owe.mk ?_ ?_) | (refine Fork.same ?_; (first | refine fkY ?_ | refine fkF ?_ | ((first | refine fkD ?_ ?_ | refine fkN ?_ ?_ | refine fkM ?_ ?_) <;> intro h))) | ((first | refine OpsL.same ?_ | refine OpsDL.same ?_); first | refine oK C163 rfl rfl rfl ?_) | refine MvQ.stay ?_)
  refine Sat.nilS 5 3 1 (fun i => r1 (([] : List Int).getD i 0)) rfl ?_
  refine Sat.lp (fun (i, acc, c) => ⟨[(7, vi .i64 (i : Nat)), (6, vi .i64 c), (5, .c (.ms 0 (acc : List Int).length)), (0, .c (ints a)), (1, .c (ints b))], [(0, rowv 3 1 r1 0 acc)], 1⟩)
    (fun ((i, acc, c) : Nat × List Int × Int) => (acc.length = i ∧ 0 ≤ c ∧ c ≤ 1) ∧ q = acc ++ dgs (valD (a.drop i) + valD (b.drop i) + c).toNat) (fun (i, _, _) => q.length - i) (0, [], 0) [0] ⟨⟨rfl, by decide, by decide⟩, h0⟩ ?_ ?_
  · (refine qis ?_ ?_ <;> (repeat' first | exact rfl | (refine qS ?_; constructor)))
  rintro ⟨i, acc, c⟩ ⟨⟨hi, hc⟩, hq⟩
  have va := valD_drop' (l := a) (k := i)
  have vb := valD_drop' (l := b) (k := i)
  have ga := dOk_get hmo i
  have gb := dOk_get hno i
  have na := valD_nn (dOk_drop (k := i + 1) hmo)
  have nb := valD_nn (dOk_drop (k := i + 1) hno)
  have nz1 := valD_nn (dOk_drop (k := i) hmo)
  have nz2 := valD_nn (dOk_drop (k := i) hno)
  have hlen : i ≤ q.length := by rw [hq, List.length_append]; omega
  have hz : ¬ (i < a.length ∨ i < b.length ∨ 0 < c) → q = acc := fun h => by
    rw [hq, List.drop_of_length_le (by omega), List.drop_of_length_le (by omega), show c = 0 by omega]
    rw [show (valD [] + valD [] + 0 : Int).toNat = 0 by rfl, dgs_zero, List.append_nil]
  have hnz : i < a.length ∨ i < b.length ∨ 0 < c → q = (acc ++ [(a.getD i 0 + b.getD i 0 + c).tmod 1000000000]) ++ dgs (valD (a.drop (i + 1)) + valD (b.drop (i + 1)) + (a.getD i 0 + b.getD i 0 + c).tdiv 1000000000).toNat ∧ i + 1 ≤ q.length := fun h => by
    have h1 : 0 < valD (a.drop i) + valD (b.drop i) + c := by
      rcases h with h | h | h
      · have := t1 i h; omega
      · have := t2 i h; omega
      · omega
    have e : q = (acc ++ [(a.getD i 0 + b.getD i 0 + c).tmod 1000000000]) ++ dgs (valD (a.drop (i + 1)) + valD (b.drop (i + 1)) + (a.getD i 0 + b.getD i 0 + c).tdiv 1000000000).toNat := by
      rw [hq, List.append_assoc, dgs_pos (by omega), Int.tmod_eq_emod_of_nonneg (by omega), Int.tdiv_eq_ediv_of_nonneg (by omega)]
      congr 1
      rw [List.singleton_append]
      congr 1
      · omega
      · congr 1; omega
    exact ⟨e, by rw [e, List.length_append, List.length_append, List.length_singleton]; omega⟩
  have c1 := C179 (l := a) (i := i)
  have c2 := C179 (l := b) (i := i)
  (repeat' first | (refine Owe.same ?_; first | refine Owe.o ?_ | refine Owe.mk ?_ ?_) | (refine Fork.same ?_; (first | refine fkD ?_ ?_ | refine fkN ?_ ?_ | refine fkM ?_ ?_) <;> intro h) | refine MvQ.stay ?_)
  rotate_right
  · rename_i h8 h9
    have e := hz (by omega)
    subst e
    (repeat' first | (refine Owe.same ?_; first | refine Owe.o ?_ | refine Owe.mk ?_ ?_) | (refine Fork.same ?_; (first | refine fkY ?_ | refine fkF ?_ | ((first | refine fkD ?_ ?_ | refine fkN ?_ ?_ | refine fkM ?_ ?_) <;> intro h))) | ((first | refine OpsL.same ?_ | refine OpsDL.same ?_); first | refine oK C163 rfl rfl rfl ?_) | refine MvQ.stay ?_)
    refine rqF 0 _ rfl rfl rfl ?_; (repeat' first | exact rfl | (refine qS ?_; constructor))
  all_goals
    have hx := hnz (by omega)
    obtain ⟨hx1, hx2⟩ := hx
    have htd : (a.getD i 0 + b.getD i 0 + c).tdiv 1000000000 = (a.getD i 0 + b.getD i 0 + c) / 1000000000 := Int.tdiv_eq_ediv_of_nonneg (by omega)
    (repeat' first | (refine Owe.same ?_; first | refine Owe.o ?_ | refine Owe.mk ?_ ?_) | (refine Fork.same ?_; (first | refine fkY ?_ | refine fkF ?_ | ((first | refine fkD ?_ ?_ | refine fkN ?_ ?_ | refine fkM ?_ ?_) <;> intro h))) | ((first | refine OpsL.same ?_ | refine OpsDL.same ?_); first | refine oK c1 rfl rfl rfl ?_ | refine oK c2 rfl rfl rfl ?_) | refine MvQ.stay ?_)
    refine again (i + 1, acc ++ [(a.getD i 0 + b.getD i 0 + c).tmod 1000000000], (a.getD i 0 + b.getD i 0 + c).tdiv 1000000000) [1] ⟨⟨by simp; omega, ?_⟩, hx1⟩ (by simp only; omega) ?_
    · omega
    · (refine qis ?_ ?_ <;> (repeat' first | exact rfl | (refine qS ?_; constructor)))
      simp
theorem C168 {m n : Nat} : ((dgs m).length ≤ 1000 ∧ (dgs n).length ≤ 1000 ∧ n ≤ m) → PFD Tryz.prog 168 [.c (ints (dgs m)), .c (ints (dgs n))] (.c (ints (dgs (m - n)))) := fun ⟨hm, hn, hnm⟩ => by
  obtain ⟨hmo, hmv⟩ := dgs_ok m
  obtain ⟨hno, hnv⟩ := dgs_ok n
  have hsh := dgs_short (m := m) (n := n)
  generalize dgs m = a at *
  generalize dgs n = b at *
  have hab : b.length ≤ a.length := Nat.le_of_not_lt fun h => by have := hsh h; omega
  refine pi1 fn168 ?_
  (repeat' first | (refine Owe.same ?_; first | refine Owe.o ?_ | refine Owe.mk ?_ ?_) | (refine Fork.same ?_; (first | refine fkY ?_ | refine fkF ?_ | ((first | refine fkD ?_ ?_ | refine fkN ?_ ?_ | refine fkM ?_ ?_) <;> intro h))) | ((first | refine OpsL.same ?_ | refine OpsDL.same ?_); first | refine oK C163 rfl rfl rfl ?_) | refine MvQ.stay ?_)
  refine Sat.nilS 5 3 1 (fun i => r1 (([] : List Int).getD i 0)) rfl ?_
  refine Sat.lp (fun (i, acc, c) => ⟨[(7, vi .i64 (i : Nat)), (6, vi .i64 c), (5, .c (.ms 0 (acc : List Int).length)), (0, .c (ints a)), (1, .c (ints b))], [(0, rowv 3 1 r1 0 acc)], 1⟩)
    (fun ((i, acc, c) : Nat × List Int × Int) => (i ≤ a.length ∧ acc.length = i ∧ 0 ≤ c ∧ c ≤ 1) ∧ dOk acc ∧ valD acc + 1000000000 ^ i * (valD (a.drop i) - valD (b.drop i) - c) = (m : Int) - n) (fun (i, _, _) => a.length - i) (0, [], 0) [0] ⟨⟨Nat.zero_le _, rfl, by decide, by decide⟩, dOk_nil, by rw [List.drop_zero, List.drop_zero, hmv, hnv]; simp [valD]⟩ ?_ ?_
  · (refine qis ?_ ?_ <;> (repeat' first | exact rfl | (refine qS ?_; constructor)))
  rintro ⟨i, acc, c⟩ ⟨⟨hi, hl, hc⟩, ho, hq⟩
  refine Fork.dec (fun hlt => ?_) (fun hlt => ?_)
  · have hlt : i < a.length := Int.ofNat_lt.1 hlt
    have va := valD_drop' (l := a) (k := i)
    have vb := valD_drop' (l := b) (k := i)
    have ga := dOk_get hmo i
    have gb := dOk_get hno i
    have c2 := C179 (l := b) (i := i)
    rw [va, vb] at hq
    have key : ∀ (d c' : Int), d - 1000000000 * c' = a.getD i 0 - b.getD i 0 - c → 0 ≤ d ∧ d < 1000000000 → dOk (acc ++ [d]) ∧ valD (acc ++ [d]) + 1000000000 ^ (i + 1) * (valD (a.drop (i + 1)) - valD (b.drop (i + 1)) - c') = (m : Int) - n := fun d c' h1 h2 => by
      refine ⟨dOk_app.2 ⟨ho, dOk_cons.2 ⟨h2, dOk_nil⟩⟩, ?_⟩
      rw [valD_app, hl, Int.pow_succ]
      simp only [valD]
      rw [← hq, show d = a.getD i 0 - b.getD i 0 - c + 1000000000 * c' by omega]
      generalize valD (a.drop (i + 1)) = A at *
      generalize valD (b.drop (i + 1)) = B at *
      grind
    (repeat' first | (refine Owe.same ?_; first | refine Owe.o ?_ | refine Owe.mk ?_ ?_) | (refine Fork.same ?_; (first | refine fkY ?_ | refine fkF ?_ | ((first | refine fkD ?_ ?_ | refine fkN ?_ ?_ | refine fkM ?_ ?_) <;> intro h))) | ((first | refine OpsL.same ?_ | refine OpsDL.same ?_); first | refine oK c2 rfl rfl rfl ?_) | refine MvQ.stay ?_)
    · rw [Int.toNat_natCast] at h
      have hk := key (a.getD i 0 - b.getD i 0 - c + 1000000000) 1 (by omega) (by omega)
      refine again (i + 1, acc ++ [a.getD i 0 - b.getD i 0 - c + 1000000000], 1) [11] ⟨⟨hlt, by simp; omega, by decide, by decide⟩, hk.1, hk.2⟩ (by simp only; omega) ?_
      (refine qis ?_ ?_ <;> (repeat' first | exact rfl | (refine qS ?_; constructor)))
      simp
    · rw [Int.toNat_natCast] at h
      have hk := key (a.getD i 0 - b.getD i 0 - c) 0 (by omega) (by omega)
      refine again (i + 1, acc ++ [a.getD i 0 - b.getD i 0 - c], 0) [11] ⟨⟨hlt, by simp; omega, by decide, by decide⟩, hk.1, hk.2⟩ (by simp only; omega) ?_
      (refine qis ?_ ?_ <;> (repeat' first | exact rfl | (refine qS ?_; constructor)))
      simp
  · have hia : i = a.length := by have : ¬ i < a.length := fun hh => hlt (Int.ofNat_lt.2 hh); omega
    subst hia
    rw [List.drop_of_length_le (Nat.le_refl _), List.drop_of_length_le hab] at hq
    have hv := valD_nn ho
    have hlo := valD_lt ho
    rw [hl] at hlo
    have hc0 : c = 0 := by
      refine Classical.byContradiction fun hne => ?_
      have : c = 1 := by omega
      subst this
      simp only [valD] at hq
      omega
    subst hc0
    have hv2 : valD acc = (m : Int) - n := by simpa [valD] using hq
    have c163 := C163 (l := acc) (by omega)
    rw [trm_eq ho, hv2, show ((m : Int) - n).toNat = m - n by omega] at c163
    refine MvQ.frz 5 0 rfl rfl (Nat.le_refl _) ?_
    (repeat' first | (refine Owe.same ?_; first | refine Owe.o ?_ | refine Owe.mk ?_ ?_) | (refine Fork.same ?_; (first | refine fkY ?_ | refine fkF ?_ | ((first | refine fkD ?_ ?_ | refine fkN ?_ ?_ | refine fkM ?_ ?_) <;> intro h))) | ((first | refine OpsL.same ?_ | refine OpsDL.same ?_); first | refine oK c163 rfl rfl rfl ?_) | refine MvQ.stay ?_)
    (refine rqK rfl ?_; (repeat' first | exact rfl | (refine qS ?_; constructor)))
end Go.Pw

set_option linter.unusedSimpArgs false
set_option linter.unusedVariables false
set_option maxHeartbeats 1000000
namespace Go.Pw
set_option maxRecDepth 2000
open Go Go.Proofs A1 A2 A3 A4
theorem set_getD' {l : List Int} {i j : Nat} {v : Int} (hi : i < l.length) : (l.set i v).getD j 0 = if i = j then v else l.getD j 0 := by
  simp only [List.getD_eq_getElem?_getD, List.getElem?_set]
  split
  · rename_i h; subst h; simp [hi]
  · rfl
abbrev sgOk (s : Int) (l : List Int) : Prop := s = 1 ∨ s = -1 ∨ s = 0 ∧ valD l = 0
theorem C165v {s1 s2 : Int} {a b : List Int} : (a.length ≤ 1000 ∧ b.length ≤ 1000 ∧ dOk a ∧ dOk b ∧ sgOk s1 a ∧ sgOk s2 b) → PFD Tryz.prog 165 [wv s1 a, wv s2 b] (wd ((s1 * valD a) * (s2 * valD b))) := fun ⟨ha, hb, hao, hbo, h1, h2⟩ => by
  have hss : (-1 ≤ s1 ∧ s1 ≤ 1) ∧ -1 ≤ s2 ∧ s2 ≤ 1 := by
    refine ⟨?_, ?_⟩
    · rcases h1 with h | h | h <;> omega
    · rcases h2 with h | h | h <;> omega
  have hsm : -1 ≤ s1 * s2 ∧ s1 * s2 ≤ 1 := by
    rcases h1 with rfl | rfl | ⟨rfl, _⟩ <;> omega
  refine pi1 fn165 ?_
  (repeat' first | (refine Owe.same ?_; first | refine Owe.o ?_ | refine Owe.mk ?_ ?_) | (refine Fork.same ?_; (first | refine fkY ?_ | refine fkF ?_ | ((first | refine fkD ?_ ?_ | refine fkN ?_ ?_ | refine fkM ?_ ?_) <;> intro h))) | ((first | refine OpsL.same ?_ | refine OpsDL.same ?_); first | refine oK C163 rfl rfl rfl ?_) | refine MvQ.stay ?_)
  refine Sat.lp (fun (i, out) => ⟨[(6, vi .i64 (i : Nat)), (5, .c (.ms 0 (out : List Int).length)), (2, .c (.rp [dI s1, .sl 1 a.length fun i => r1 (a.getD i 0)])), (3, .c (.rp [dI s2, .sl 1 b.length fun i => r1 (b.getD i 0)])), (4, .c (.bp 1 0))], [(0, rowv 3 1 r1 0 out), (1, .box [int 0, .d (.v (.slice none 0 0))])], 2⟩)
    (fun ((i, out) : Nat × List Int) => (i ≤ a.length ∧ out.length = a.length + b.length + 1) ∧ dOk out ∧ (∀ j, i + b.length ≤ j → out.getD j 0 = 0) ∧ valD out = valD (a.take i) * valD b) (fun (i, _) => a.length - i) (0, List.replicate (a.length + b.length + 1) 0) [1, 0] ⟨⟨Nat.zero_le _, by simp⟩, ?_, ?_, ?_⟩ ?_ ?_
  · intro j hj
    rw [List.length_replicate] at hj
    simp [List.getD_eq_getElem?_getD, List.getElem?_replicate, hj]
  · intro j hj
    rw [List.getD_eq_getElem?_getD, List.getElem?_replicate]
    split <;> rfl
  · have : ∀ n, valD (List.replicate n 0) = 0 := fun n => by
      induction n with
      | zero => rfl
      | succ n ih => rw [List.replicate_succ, valD, ih]; rfl
    rw [this]; simp [valD]
  · have e : ((a.length : Int) + b.length + 1).toNat = a.length + b.length + 1 := by omega
    (refine qis ?_ ?_ <;> (repeat' first | exact rfl | (refine qS ?_; constructor)))
    · rw [e]; simp
    · rw [e]; exact ⟨0, rfl, rfl⟩
  rintro ⟨i, out⟩ ⟨⟨hi, hlen⟩, ho, hz, hv⟩
  have hvb := valD_nn hbo
  refine Fork.dec (fun hlt => ?_) (fun hlt => ?_)
  · have hlt : i < a.length := Int.ofNat_lt.1 hlt
    have gi := hao i hlt
    have htk := valD_take (l := a) hlt
    (repeat' first | (refine Owe.same ?_; first | refine Owe.o ?_ | refine Owe.mk ?_ ?_) | (refine Fork.same ?_; (first | refine fkY ?_ | refine fkF ?_ | ((first | refine fkD ?_ ?_ | refine fkN ?_ ?_ | refine fkM ?_ ?_) <;> intro h))) | ((first | refine OpsL.same ?_ | refine OpsDL.same ?_); first | refine oK C163 rfl rfl rfl ?_) | refine MvQ.stay ?_)
    refine Sat.lp (fun (k, out, c) => ⟨[(8, vi .i64 (k : Nat)), (7, vi .i64 c), (6, vi .i64 i), (5, .c (.ms 0 (out : List Int).length)), (2, .c (.rp [dI s1, .sl 1 a.length fun i => r1 (a.getD i 0)])), (3, .c (.rp [dI s2, .sl 1 b.length fun i => r1 (b.getD i 0)])), (4, .c (.bp 1 0))], [(0, rowv 3 1 r1 0 out), (1, .box [int 0, .d (.v (.slice none 0 0))])], 2⟩)
      (fun ((k, out, c) : Nat × List Int × Int) => (k ≤ b.length ∧ out.length = a.length + b.length + 1) ∧ (0 ≤ c ∧ c < 1000000000) ∧ dOk out ∧ (∀ j, i + b.length ≤ j → out.getD j 0 = 0) ∧ valD out + c * 1000000000 ^ (i + k) = valD (a.take i) * valD b + a.getD i 0 * 1000000000 ^ i * valD (b.take k)) (fun (k, _, _) => b.length - k) (0, out, 0) [0, 1] ⟨⟨Nat.zero_le _, hlen⟩, ⟨by decide, by decide⟩, ho, hz, by rw [hv]; simp [valD]⟩ ?_ ?_
    · (refine qis ?_ ?_ <;> (repeat' first | exact rfl | (refine qS ?_; constructor)))
    rintro ⟨k, out, c⟩ ⟨⟨hk, hlen⟩, hc, ho, hz, hv⟩
    refine Fork.dec (fun hlk => ?_) (fun hlk => ?_)
    · have hlk : k < b.length := Int.ofNat_lt.1 hlk
      have gk := hbo k hlk
      have htk := valD_take (l := b) hlk
      have go := ho (i + k) (by omega)
      have hp1 : 0 ≤ a.getD i 0 * b.getD k 0 := Int.mul_nonneg gi.1 gk.1
      have hp2 : a.getD i 0 * b.getD k 0 ≤ 999999999 * 999999999 := Int.mul_le_mul (by omega) (by omega) gk.1 (by decide)
      have hik : ((i : Int) + k).toNat = i + k := by omega
      have hoo : out.getD ((i : Int) + k).toNat 0 = out.getD (i + k) 0 := by rw [hik]
      have hq := Int.tdiv_eq_ediv_of_nonneg (a := out.getD ((i : Int) + k).toNat 0 + a.getD i 0 * b.getD k 0 + c) (b := 1000000000) (by omega)
      have hr := Int.tmod_eq_emod_of_nonneg (a := out.getD ((i : Int) + k).toNat 0 + a.getD i 0 * b.getD k 0 + c) (b := 1000000000) (by omega)
      (repeat' first | (refine Owe.same ?_; first | refine Owe.o ?_ | refine Owe.mk ?_ ?_) | (refine Fork.same ?_; (first | refine fkY ?_ | refine fkF ?_ | ((first | refine fkD ?_ ?_ | refine fkN ?_ ?_ | refine fkM ?_ ?_) <;> intro h))) | ((first | refine OpsL.same ?_ | refine OpsDL.same ?_); first | refine oK C163 rfl rfl rfl ?_) | refine MvQ.stay ?_)
      generalize hs : out.getD ((i : Int) + k).toNat 0 + a.getD i 0 * b.getD k 0 + c = s at *
      refine again (k + 1, out.set (i + k) (s % 1000000000), s / 1000000000) [0, 1] ⟨⟨hlk, by rw [List.length_set]; exact hlen⟩, ⟨by omega, by omega⟩, dOk_set ho (by omega), fun j hj => ?_, ?_⟩ (by simp only; omega) ?_
      · rw [set_getD' (by omega), if_neg (by omega)]
        exact hz j hj
      · rw [valD_set (by omega), htk, Int.mul_add, ← Int.add_assoc, ← hv, ← Nat.add_assoc, Int.pow_succ]
        have hs2 : s = 1000000000 * (s / 1000000000) + s % 1000000000 := by omega
        have hs3 : s = out.getD (i + k) 0 + a.getD i 0 * b.getD k 0 + c := by rw [← hs, hoo]
        generalize s / 1000000000 = q at *
        generalize s % 1000000000 = r at *
        have hpa : (1000000000 : Int) ^ (i + k) = 1000000000 ^ i * 1000000000 ^ k := Int.pow_add ..
        rw [hpa]
        generalize (1000000000 : Int) ^ i = P at *
        generalize (1000000000 : Int) ^ k = Q at *
        generalize a.getD i 0 = x at *
        generalize b.getD k 0 = y at *
        generalize out.getD (i + k) 0 = u at *
        have : r - u = x * y + c - 1000000000 * q := by omega
        rw [this]
        grind
      · (refine qis ?_ ?_ <;> (repeat' first | exact rfl | (refine qS ?_; constructor)))
        · rw [Int.toNat_natCast, Int.toNat_natCast, hs, hq]
        · rw [List.length_set]
        · refine ⟨_, rfl, ?_⟩
          rw [hik, ← hr, ← hs, hik]
          rfl
    · have hkb : k = b.length := by have : ¬ k < b.length := fun hh => hlk (Int.ofNat_lt.2 hh); omega
      subst hkb
      have hib : ((i : Int) + b.length).toNat = i + b.length := by omega
      have h0 : out.getD (i + b.length) 0 = 0 := hz _ (Nat.le_refl _)
      have hoo : out.getD ((i : Int) + b.length).toNat 0 = 0 := by rw [hib]; exact h0
      (repeat' first | (refine Owe.same ?_; first | refine Owe.o ?_ | refine Owe.mk ?_ ?_) | (refine Fork.same ?_; (first | refine fkY ?_ | refine fkF ?_ | ((first | refine fkD ?_ ?_ | refine fkN ?_ ?_ | refine fkM ?_ ?_) <;> intro h))) | ((first | refine OpsL.same ?_ | refine OpsDL.same ?_); first | refine oK C163 rfl rfl rfl ?_) | refine MvQ.stay ?_)
      refine again (i + 1, out.set (i + b.length) c) [0, 1] ⟨⟨hlt, by rw [List.length_set]; exact hlen⟩, dOk_set ho hc, fun j hj => ?_, ?_⟩ (by simp only; omega) ?_
      · rw [set_getD' (by omega), if_neg (by omega)]
        exact hz j (by omega)
      · rw [valD_set (by omega), h0, Int.sub_zero, hv, htk, List.take_of_length_le (Nat.le_refl _), Int.add_mul, Int.mul_comm (1000000000 ^ i)]
      · (refine qis ?_ ?_ <;> (repeat' first | exact rfl | (refine qS ?_; constructor)))
        · rw [List.length_set]
        · exact ⟨_, rfl, by rw [hoo, hib, Int.zero_add]⟩
  · have hia : i = a.length := by have : ¬ i < a.length := fun hh => hlt (Int.ofNat_lt.2 hh); omega
    subst hia
    rw [List.take_of_length_le (Nat.le_refl _)] at hv
    have c166 := C166 (s := s1 * s2) (l := out) ⟨by omega, ho, by
      rcases h1 with rfl | rfl | ⟨rfl, hz1⟩
      · rcases h2 with rfl | rfl | ⟨rfl, hz2⟩
        · exact .inl rfl
        · exact .inr (.inl rfl)
        · exact .inr (.inr ⟨rfl, by rw [hv, hz2, Int.mul_zero]⟩)
      · rcases h2 with rfl | rfl | ⟨rfl, hz2⟩
        · exact .inr (.inl rfl)
        · exact .inl rfl
        · exact .inr (.inr ⟨rfl, by rw [hv, hz2, Int.mul_zero]⟩)
      · exact .inr (.inr ⟨by rw [Int.zero_mul], by rw [hv, hz1, Int.zero_mul]⟩)⟩
    rw [hv, show s1 * s2 * (valD a * valD b) = s1 * valD a * (s2 * valD b) by grind] at c166
    refine MvQ.frz 5 0 rfl rfl (Nat.le_refl _) ?_
    (repeat' first | (refine Owe.same ?_; first | refine Owe.o ?_ | refine Owe.mk ?_ ?_) | (refine Fork.same ?_; (first | refine fkY ?_ | refine fkF ?_ | ((first | refine fkD ?_ ?_ | refine fkN ?_ ?_ | refine fkM ?_ ?_) <;> intro h))) | ((first | refine OpsL.same ?_ | refine OpsDL.same ?_); first | refine oK c166 rfl rfl rfl ?_) | refine MvQ.stay ?_)
    (refine rqK rfl ?_; (repeat' first | exact rfl | (refine qS ?_; constructor)))
end Go.Pw

set_option linter.unusedSimpArgs false
set_option linter.unusedVariables false
set_option maxHeartbeats 1000000
namespace Go.Pw
set_option maxRecDepth 2000
open Go Go.Proofs A1 A2 A3 A4
/-- Numbers of no more than so many digits. -/
abbrev fewI (k : Nat) (x : Int) : Prop := (dgs x.natAbs).length ≤ k
theorem sg_ok (x : Int) : sgOk x.sign (dgs x.natAbs) := by
  rcases Int.lt_trichotomy x 0 with h | h | h
  · exact .inr (.inl (Int.sign_eq_neg_one_of_neg h))
  · subst h; exact .inr (.inr ⟨rfl, by rw [show (0 : Int).natAbs = 0 from rfl, dgs_zero]; rfl⟩)
  · exact .inl (Int.sign_eq_one_of_pos h)
theorem sg_val (x : Int) : x.sign * valD (dgs x.natAbs) = x := by
  rw [(dgs_ok _).2]; exact Int.sign_mul_natAbs x
theorem C165 {x y : Int} : (fewI 1000 x ∧ fewI 1000 y) → PFD Tryz.prog 165 [wd x, wd y] (wd (x * y)) := fun ⟨hx, hy⟩ => by
  have h := C165v (s1 := x.sign) (s2 := y.sign) (a := dgs x.natAbs) (b := dgs y.natAbs) ⟨hx, hy, (dgs_ok _).1, (dgs_ok _).1, sg_ok x, sg_ok y⟩
  rw [sg_val, sg_val] at h
  exact h
theorem wd_pos {n : Nat} (h : 0 < n) : wd (n : Int) = wv 1 (dgs n) := by
  show wv _ _ = _
  rw [Int.sign_eq_one_of_pos (by omega), Int.natAbs_natCast]
theorem wd_neg {n : Nat} (h : 0 < n) : wd (-(n : Int)) = wv (-1) (dgs n) := by
  show wv _ _ = _
  rw [Int.sign_eq_neg_one_of_neg (by omega), Int.natAbs_neg, Int.natAbs_natCast]
theorem wd_zero : wd 0 = wv 0 [] := by
  show wv _ _ = _
  rw [show (0 : Int).natAbs = 0 from rfl, dgs_zero]; rfl
theorem wd_s {s : Int} {n : Nat} (hs : s = 1 ∨ s = -1) (h : 0 < n) : wd (s * (n : Int)) = wv s (dgs n) := by
  rcases hs with rfl | rfl
  · rw [Int.one_mul]; exact wd_pos h
  · rw [Int.neg_mul, Int.one_mul]; exact wd_neg h
theorem C166s {s : Int} {n : Nat} (hs : s = 1 ∨ s = -1) (hn : (dgs n).length ≤ 1001) (h : 0 < n) : PFD Tryz.prog 166 [vi .i64 s, .c (ints (dgs n))] (wv s (dgs n)) := by
  have c166 := C166 (s := s) (l := dgs n) ⟨by omega, (dgs_ok _).1, by rcases hs with h | h <;> simp [h]⟩
  rw [(dgs_ok _).2, wd_s hs h] at c166
  exact c166
theorem dgs_mono {m n : Nat} (h : m ≤ n) : (dgs m).length ≤ (dgs n).length := Nat.le_of_not_lt fun hh => by
  have := dgs_short hh
  omega
theorem C172s {s : Int} {m n : Nat} (hs : s = 1 ∨ s = -1) (hm : few m) (hn : few n) (hmn : (dgs (m + n)).length ≤ 1001) (m0 : 0 < m) (n0 : 0 < n) : PFD Tryz.prog 172 [wv s (dgs m), wv s (dgs n)] (wv s (dgs (m + n))) := by
  have c182 := C182 (m := m) (n := n) ⟨hm, hn, hmn⟩
  have c166 := C166s hs hmn (by omega)
  generalize dgs m = a at *
  generalize dgs n = b at *
  generalize dgs (m + n) = c at *
  have hs0 : s ≠ 0 := by rcases hs with h | h <;> omega
  refine pi1 fn172 ?_
  (repeat' first | (refine Owe.same ?_; first | refine Owe.o ?_ | refine Owe.mk ?_ ?_) | (refine Fork.same ?_; (first | refine fkY ?_ | refine fkF ?_ | ((first | refine fkD ?_ ?_ | refine fkN ?_ ?_ | refine fkM ?_ ?_) <;> intro h))) | ((first | refine OpsL.same ?_ | refine OpsDL.same ?_); first | refine oK c182 rfl rfl rfl ?_ | refine oK c166 rfl rfl rfl ?_) | refine MvQ.stay ?_)
  (refine rqK rfl ?_; (repeat' first | exact rfl | (refine qS ?_; constructor)))
theorem C172d {s t : Int} {m n : Nat} (hs : (s = 1 ∧ t = -1) ∨ (s = -1 ∧ t = 1)) (hm : few m) (hn : few n) (m0 : 0 < m) (n0 : 0 < n) : PFD Tryz.prog 172 [wv s (dgs m), wv t (dgs n)] (if m = n then wv 0 [] else if n < m then wv s (dgs (m - n)) else wv t (dgs (n - m))) := by
  have c164 := C164 (m := m) (n := n) ⟨hm, hn⟩
  have hs0 : s ≠ 0 ∧ t ≠ 0 ∧ s ≠ t := by omega
  have hc : cmpI m n = if (m : Int) < n then -1 else if (n : Int) < m then 1 else 0 := rfl
  have hm1 : few m := hm
  have hn1 : few n := hn
  by_cases h1 : m = n
  · have : cmpI m n = 0 := by rw [hc, if_neg (by omega), if_neg (by omega)]
    rw [this] at c164
    rw [if_pos h1]
    generalize dgs m = a at *
    generalize dgs n = b at *
    refine pi1 fn172 ?_
    (repeat' first | (refine Owe.same ?_; first | refine Owe.o ?_ | refine Owe.mk ?_ ?_) | (refine Fork.same ?_; (first | refine fkY ?_ | refine fkF ?_ | ((first | refine fkD ?_ ?_ | refine fkN ?_ ?_ | refine fkM ?_ ?_) <;> intro h))) | ((first | refine OpsL.same ?_ | refine OpsDL.same ?_); first | refine oK c164 rfl rfl rfl ?_) | refine MvQ.stay ?_)
    (refine rqK rfl ?_; (repeat' first | exact rfl | (refine qS ?_; constructor)))
  · rw [if_neg h1]
    by_cases h2 : n < m
    · have : cmpI m n = 1 := by rw [hc, if_neg (by omega), if_pos (by omega)]
      rw [this] at c164
      rw [if_pos h2]
      have c168 := C168 (m := m) (n := n) ⟨hm, hn, by omega⟩
      have c166 := C166s (s := s) (n := m - n) (by omega) (by have := dgs_mono (show m - n ≤ m by omega); simp only [few] at hm; omega) (by omega)
      generalize dgs (m - n) = c at *
      generalize dgs m = a at *
      generalize dgs n = b at *
      refine pi1 fn172 ?_
      (repeat' first | (refine Owe.same ?_; first | refine Owe.o ?_ | refine Owe.mk ?_ ?_) | (refine Fork.same ?_; (first | refine fkY ?_ | refine fkF ?_ | ((first | refine fkD ?_ ?_ | refine fkN ?_ ?_ | refine fkM ?_ ?_) <;> intro h))) | ((first | refine OpsL.same ?_ | refine OpsDL.same ?_); first | refine oK c164 rfl rfl rfl ?_ | refine oK c168 rfl rfl rfl ?_ | refine oK c166 rfl rfl rfl ?_) | refine MvQ.stay ?_)
      (refine rqK rfl ?_; (repeat' first | exact rfl | (refine qS ?_; constructor)))
    · have : cmpI m n = -1 := by rw [hc, if_pos (by omega)]
      rw [this] at c164
      rw [if_neg h2]
      have c168 := C168 (m := n) (n := m) ⟨hn, hm, by omega⟩
      have c166 := C166s (s := t) (n := n - m) (by omega) (by have := dgs_mono (show n - m ≤ n by omega); simp only [few] at hn; omega) (by omega)
      generalize dgs (n - m) = c at *
      generalize dgs m = a at *
      generalize dgs n = b at *
      refine pi1 fn172 ?_
      (repeat' first | (refine Owe.same ?_; first | refine Owe.o ?_ | refine Owe.mk ?_ ?_) | (refine Fork.same ?_; (first | refine fkY ?_ | refine fkF ?_ | ((first | refine fkD ?_ ?_ | refine fkN ?_ ?_ | refine fkM ?_ ?_) <;> intro h))) | ((first | refine OpsL.same ?_ | refine OpsDL.same ?_); first | refine oK c164 rfl rfl rfl ?_ | refine oK c168 rfl rfl rfl ?_ | refine oK c166 rfl rfl rfl ?_) | refine MvQ.stay ?_)
      (refine rqK rfl ?_; (repeat' first | exact rfl | (refine qS ?_; constructor)))
theorem C172 {x y : Int} : (fewI 1000 x ∧ fewI 1000 y ∧ (dgs (x.natAbs + y.natAbs)).length ≤ 1001) → PFD Tryz.prog 172 [wd x, wd y] (wd (x + y)) := fun ⟨hx, hy, hxy⟩ => by
  have z1 : ∀ (t : Int) (b : List Int), PFD Tryz.prog 172 [wv 0 [], wv t b] (wv t b) := fun t b => by
    refine pi1 fn172 ?_
    (repeat' first | (refine Owe.same ?_; first | refine Owe.o ?_ | refine Owe.mk ?_ ?_) | (refine Fork.same ?_; (first | refine fkY ?_ | refine fkF ?_ | ((first | refine fkD ?_ ?_ | refine fkN ?_ ?_ | refine fkM ?_ ?_) <;> intro h))) | ((first | refine OpsL.same ?_ | refine OpsDL.same ?_); first | refine oK C163 rfl rfl rfl ?_) | refine MvQ.stay ?_)
    (refine rqK rfl ?_; (repeat' first | exact rfl | (refine qS ?_; constructor)))
  have z2 : ∀ (t : Int) (b : List Int), t ≠ 0 → PFD Tryz.prog 172 [wv t b, wv 0 []] (wv t b) := fun t b ht => by
    refine pi1 fn172 ?_
    (repeat' first | (refine Owe.same ?_; first | refine Owe.o ?_ | refine Owe.mk ?_ ?_) | (refine Fork.same ?_; (first | refine fkY ?_ | refine fkF ?_ | ((first | refine fkD ?_ ?_ | refine fkN ?_ ?_ | refine fkM ?_ ?_) <;> intro h))) | ((first | refine OpsL.same ?_ | refine OpsDL.same ?_); first | refine oK C163 rfl rfl rfl ?_) | refine MvQ.stay ?_)
    (refine rqK rfl ?_; (repeat' first | exact rfl | (refine qS ?_; constructor)))
  rcases Int.lt_trichotomy x 0 with h | h | h
  · obtain ⟨m, rfl⟩ : ∃ m : Nat, x = -(m : Int) := ⟨x.natAbs, by omega⟩
    have m0 : 0 < m := by omega
    rw [fewI, Int.natAbs_neg, Int.natAbs_natCast] at hx
    rw [wd_neg m0]
    rcases Int.lt_trichotomy y 0 with h2 | h2 | h2
    · obtain ⟨n, rfl⟩ : ∃ n : Nat, y = -(n : Int) := ⟨y.natAbs, by omega⟩
      have n0 : 0 < n := by omega
      rw [fewI, Int.natAbs_neg, Int.natAbs_natCast] at hy
      rw [Int.natAbs_neg, Int.natAbs_neg, Int.natAbs_natCast, Int.natAbs_natCast] at hxy
      rw [wd_neg n0, show -(m : Int) + -(n : Int) = -((m + n : Nat) : Int) by omega, wd_neg (by omega)]
      exact C172s (.inr rfl) hx hy hxy m0 n0
    · subst h2
      rw [wd_zero, Int.add_zero, wd_neg m0]
      exact z2 _ _ (by decide)
    · obtain ⟨n, rfl⟩ : ∃ n : Nat, y = n := ⟨y.natAbs, by omega⟩
      have n0 : 0 < n := by omega
      rw [fewI, Int.natAbs_natCast] at hy
      rw [wd_pos n0]
      have c := C172d (s := -1) (t := 1) (.inr ⟨rfl, rfl⟩) hx hy m0 n0
      by_cases e1 : m = n
      · rw [if_pos e1] at c
        rw [show -(m : Int) + n = 0 by omega, wd_zero]; exact c
      · rw [if_neg e1] at c
        by_cases e2 : n < m
        · rw [if_pos e2] at c
          rw [show -(m : Int) + n = -((m - n : Nat) : Int) by omega, wd_neg (by omega)]; exact c
        · rw [if_neg e2] at c
          rw [show -(m : Int) + n = ((n - m : Nat) : Int) by omega, wd_pos (by omega)]; exact c
  · subst h
    rw [wd_zero, Int.zero_add]
    exact z1 _ _
  · obtain ⟨m, rfl⟩ : ∃ m : Nat, x = m := ⟨x.natAbs, by omega⟩
    have m0 : 0 < m := by omega
    rw [fewI, Int.natAbs_natCast] at hx
    rw [wd_pos m0]
    rcases Int.lt_trichotomy y 0 with h2 | h2 | h2
    · obtain ⟨n, rfl⟩ : ∃ n : Nat, y = -(n : Int) := ⟨y.natAbs, by omega⟩
      have n0 : 0 < n := by omega
      rw [fewI, Int.natAbs_neg, Int.natAbs_natCast] at hy
      rw [wd_neg n0]
      have c := C172d (s := 1) (t := -1) (.inl ⟨rfl, rfl⟩) hx hy m0 n0
      by_cases e1 : m = n
      · rw [if_pos e1] at c
        rw [show (m : Int) + -(n : Int) = 0 by omega, wd_zero]; exact c
      · rw [if_neg e1] at c
        by_cases e2 : n < m
        · rw [if_pos e2] at c
          rw [show (m : Int) + -(n : Int) = ((m - n : Nat) : Int) by omega, wd_pos (by omega)]; exact c
        · rw [if_neg e2] at c
          rw [show (m : Int) + -(n : Int) = -((n - m : Nat) : Int) by omega, wd_neg (by omega)]; exact c
    · subst h2
      rw [wd_zero, Int.add_zero, wd_pos m0]
      exact z2 _ _ (by decide)
    · obtain ⟨n, rfl⟩ : ∃ n : Nat, y = n := ⟨y.natAbs, by omega⟩
      have n0 : 0 < n := by omega
      rw [fewI, Int.natAbs_natCast] at hy
      rw [Int.natAbs_natCast, Int.natAbs_natCast] at hxy
      rw [wd_pos n0, show (m : Int) + (n : Int) = ((m + n : Nat) : Int) by omega, wd_pos (by omega)]
      exact C172s (.inl rfl) hx hy hxy m0 n0
theorem C169 {x y : Int} : (fewI 1000 x ∧ fewI 1000 y ∧ (dgs (x.natAbs + y.natAbs)).length ≤ 1001) → PFD Tryz.prog 169 [wd x, wd y] (wd (x - y)) := fun ⟨hx, hy, hxy⟩ => by
  have c149 := C149 (z := y)
  have c172 := C172 (x := x) (y := -y) ⟨hx, by rw [fewI, Int.natAbs_neg]; exact hy, by rw [Int.natAbs_neg]; exact hxy⟩
  rw [← Int.sub_eq_add_neg] at c172
  have key : ∀ (s t t' u : Int) (a b b' c : List Int), PFD Tryz.prog 149 [wv t b] (wv t' b') → PFD Tryz.prog 172 [wv s a, wv t' b'] (wv u c) → PFD Tryz.prog 169 [wv s a, wv t b] (wv u c) := fun s t t' u a b b' c q1 q2 => by
    refine pi1 fn169 ?_
    (repeat' first | (refine Owe.same ?_; first | refine Owe.o ?_ | refine Owe.mk ?_ ?_) | (refine Fork.same ?_; (first | refine fkY ?_ | refine fkF ?_ | ((first | refine fkD ?_ ?_ | refine fkN ?_ ?_ | refine fkM ?_ ?_) <;> intro h))) | ((first | refine OpsL.same ?_ | refine OpsDL.same ?_); first | refine oK q1 rfl rfl rfl ?_ | refine oK q2 rfl rfl rfl ?_) | refine MvQ.stay ?_)
    (refine rqK rfl ?_; (repeat' first | exact rfl | (refine qS ?_; constructor)))
  exact key _ _ _ _ _ _ _ _ c149 c172
theorem C171 {x y : Int} : (fewI 1000 x ∧ fewI 1000 y ∧ (dgs (x.natAbs + y.natAbs)).length ≤ 1001) → PFD Tryz.prog 171 [wd x, wd y] (vi .i64 (x - y).sign) := fun h => by
  have c169 := C169 (x := x) (y := y) h
  have key : ∀ (s t u : Int) (a b c : List Int), PFD Tryz.prog 169 [wv s a, wv t b] (wv u c) → PFD Tryz.prog 171 [wv s a, wv t b] (vi .i64 u) := fun s t u a b c q1 => by
    refine pi1 fn171 ?_
    (repeat' first | (refine Owe.same ?_; first | refine Owe.o ?_ | refine Owe.mk ?_ ?_) | (refine Fork.same ?_; (first | refine fkY ?_ | refine fkF ?_ | ((first | refine fkD ?_ ?_ | refine fkN ?_ ?_ | refine fkM ?_ ?_) <;> intro h))) | ((first | refine OpsL.same ?_ | refine OpsDL.same ?_); first | refine oK q1 rfl rfl rfl ?_) | refine MvQ.stay ?_)
    (refine rqK rfl ?_; (repeat' first | exact rfl | (refine qS ?_; constructor)))
  exact key _ _ _ _ _ _ c169
end Go.Pw

set_option linter.unusedVariables false
set_option maxHeartbeats 2000000
set_option maxRecDepth 100000
namespace Go.Pw
open Go Go.Proofs
/-- moonpool/moonpoolbase.WideFloor -/
def lc141w : LCode :=
  (.seq (.region [⟨some 2, .boxS (.tmp 0), none⟩, ⟨some 3, .boxS (.tmp 1), none⟩, ⟨some 4, .alloc [(.int .i64 0), (.slice none 0 0)], none⟩]) (.seq (.seq (.region [⟨some 12, .fld 0
    (.tmp 2), none⟩, ⟨some 13, .load false 1 (.tmp 12), none⟩, ⟨some 14, .bin .eql (.tmp 13) (.const (.int .i64 0)), none⟩]) (.cond (.tmp 14) (.seq (.region [⟨some 15, .build [(.int
    .i64 0), (.slice none 0 0)] [], none⟩, ⟨none, .store 2 (.tmp 4) (.tmp 15), none⟩]) .ret) .skip)) (.seq (.region [⟨some 16, .fld 1 (.tmp 2), none⟩, ⟨some 17, .load false 1 (.tmp
    16), none⟩, ⟨some 18, .len (.tmp 17), none⟩, ⟨some 19, .make true 3 1 8 [(.int .i64 0)] (.tmp 18), none⟩, ⟨some 20, .lit false 3 1 [], none⟩, ⟨some 5, .mv (.tmp 19), none⟩,
    ⟨some 6, .mv (.tmp 20), none⟩]) (.seq (.seq (.region [⟨some 21, .fld 1 (.tmp 2), none⟩, ⟨some 22, .load false 1 (.tmp 21), none⟩, ⟨some 23, .len (.tmp 22), none⟩, ⟨some 24, .bin
    .sub (.tmp 23) (.const (.int .i64 1)), none⟩, ⟨some 7, .mv (.tmp 24), none⟩]) (.block 0 (.loop (.seq (.seq (.region [⟨some 25, .mv (.tmp 7), none⟩, ⟨some 26, .bin .geq (.tmp 25)
    (.const (.int .i64 0)), none⟩]) (.cond (.tmp 26) .skip (.exit 0))) (.seq (.block 1 (.seq (.region [⟨some 29, .fld 1 (.tmp 2), none⟩, ⟨some 30, .load false 1 (.tmp 29), none⟩,
    ⟨some 31, .mv (.tmp 7), none⟩, ⟨some 32, .idx 1 (.tmp 30) (.tmp 31), none⟩, ⟨some 33, .load false 1 (.tmp 32), none⟩, ⟨some 34, .lit true 3 1 [(.tmp 33)], none⟩, ⟨some 35, .mv
    (.tmp 6), none⟩, ⟨some 36, .append true 3 1 8 (.tmp 34) (.tmp 35), none⟩, ⟨some 37, .call (.func 163) [(.tmp 36)], none⟩, ⟨some 6, .mv (.tmp 37), none⟩]) (.seq (.region [⟨some
    8, .mv (.const (.int .i64 0)), none⟩, ⟨some 9, .mv (.const (.int .i64 999999999)), none⟩]) (.seq (.block 2 (.loop (.seq (.seq (.region [⟨some 38, .mv (.tmp 8), none⟩, ⟨some 39,
    .mv (.tmp 9), none⟩, ⟨some 40, .bin .lss (.tmp 38) (.tmp 39), none⟩]) (.cond (.tmp 40) .skip (.exit 2))) (.block 3 (.seq (.region [⟨some 41, .mv (.tmp 8), none⟩, ⟨some 42, .mv
    (.tmp 9), none⟩, ⟨some 43, .bin .add (.tmp 41) (.tmp 42), none⟩, ⟨some 44, .bin .add (.tmp 43) (.const (.int .i64 1)), none⟩, ⟨some 45, .bin .quo (.tmp 44) (.const (.int .i64
    2)), none⟩, ⟨some 10, .mv (.tmp 45), none⟩]) (.seq (.region [⟨some 46, .fld 1 (.tmp 3), none⟩, ⟨some 47, .load false 1 (.tmp 46), none⟩, ⟨some 48, .call (.func 166) [(.const
    (.int .i64 1)), (.tmp 47)], none⟩, ⟨some 49, .mv (.tmp 10), none⟩, ⟨some 50, .call (.func 167) [(.tmp 49)], none⟩, ⟨some 51, .call (.func 165) [(.tmp 48), (.tmp 50)], none⟩,
    ⟨some 52, .part false 1 1 (.tmp 51), none⟩, ⟨some 53, .mv (.tmp 6), none⟩, ⟨some 54, .call (.func 164) [(.tmp 52), (.tmp 53)], none⟩, ⟨some 55, .bin .leq (.tmp 54) (.const (.int
    .i64 0)), none⟩]) (.cond (.tmp 55) (.region [⟨some 56, .mv (.tmp 10), none⟩, ⟨some 8, .mv (.tmp 56), none⟩]) (.region [⟨some 57, .mv (.tmp 10), none⟩, ⟨some 58, .bin .sub (.tmp
    57) (.const (.int .i64 1)), none⟩, ⟨some 9, .mv (.tmp 58), none⟩])))))))) (.seq (.region [⟨some 59, .mv (.tmp 5), none⟩, ⟨some 60, .mv (.tmp 7), none⟩, ⟨some 61, .mv (.tmp 8),
    none⟩, ⟨some 62, .idx 1 (.tmp 59) (.tmp 60), none⟩, ⟨none, .store 1 (.tmp 62) (.tmp 61), none⟩]) (.region [⟨some 63, .mv (.tmp 6), none⟩, ⟨some 64, .fld 1 (.tmp 3), none⟩, ⟨some
    65, .load false 1 (.tmp 64), none⟩, ⟨some 66, .call (.func 166) [(.const (.int .i64 1)), (.tmp 65)], none⟩, ⟨some 67, .mv (.tmp 8), none⟩, ⟨some 68, .call (.func 167) [(.tmp
    67)], none⟩, ⟨some 69, .call (.func 165) [(.tmp 66), (.tmp 68)], none⟩, ⟨some 70, .part false 1 1 (.tmp 69), none⟩, ⟨some 71, .call (.func 168) [(.tmp 63), (.tmp 70)], none⟩,
    ⟨some 6, .mv (.tmp 71), none⟩])))))) (.region [⟨some 27, .mv (.tmp 7), none⟩, ⟨some 28, .bin .sub (.tmp 27) (.const (.int .i64 1)), none⟩, ⟨some 7, .mv (.tmp 28), none⟩]))))))
    (.seq (.region [⟨some 72, .fld 0 (.tmp 2), none⟩, ⟨some 73, .load false 1 (.tmp 72), none⟩, ⟨some 74, .mv (.tmp 5), none⟩, ⟨some 75, .call (.func 166) [(.tmp 73), (.tmp 74)],
    none⟩, ⟨some 11, .alloc [(.int .i64 0), (.slice none 0 0)], none⟩, ⟨none, .store 2 (.tmp 11) (.tmp 75), none⟩]) (.seq (.seq (.region [⟨some 76, .fld 0 (.tmp 2), none⟩, ⟨some 77,
    .load false 1 (.tmp 76), none⟩, ⟨some 78, .bin .lss (.tmp 77) (.const (.int .i64 0)), none⟩, ⟨some 79, .mv (.tmp 78), none⟩, ⟨some 80, .mv (.tmp 6), some (79, true)⟩, ⟨some 81,
    .len (.tmp 80), some (79, true)⟩, ⟨some 82, .bin .gtr (.tmp 81) (.const (.int .i64 0)), some (79, true)⟩, ⟨some 83, .pick (.tmp 79) (.tmp 82) (.const (.bool false)), none⟩])
    (.cond (.tmp 83) (.regionD [⟨some 84, .load true 2 (.tmp 11), none⟩, ⟨some 85, .call (.func 167) [(.const (.int .i64 1))], none⟩, ⟨some 86, .call (.func 169) [(.tmp 84), (.tmp
    85)], none⟩, ⟨none, .store 2 (.tmp 11) (.tmp 86), none⟩] [0, 0, 3, 7] [0, 1, 2, 3]) .skip)) (.seq (.region [⟨some 87, .load true 2 (.tmp 11), none⟩, ⟨none, .store 2 (.tmp 4)
    (.tmp 87), none⟩]) .ret)))))))
theorem low141w : lowF Tryz.prog [2, 3, 19, 34, 36] Tryz.f141 = some (88, lc141w.strip, [.cell 4 true 2]) := by kernel_rfl
theorem fn141w : FnOk Tryz.prog 141 88 lc141w [.cell 4 true 2] := ⟨Tryz.call141, [2, 3, 19, 34, 36], _, Tryz.func141, low141w⟩
end Go.Pw

set_option linter.unusedSimpArgs false
set_option linter.unusedVariables false
set_option maxHeartbeats 2000000
namespace Go.Pw
set_option maxRecDepth 2000
open Go Go.Proofs A1 A2 A3 A4
theorem dgs_mul {n : Nat} (h : 0 < n) : (dgs (1000000000 * n)).length = (dgs n).length + 1 := by
  rw [dgs_pos (by omega), List.length_cons, Nat.mul_div_cancel_left _ (by decide)]
/-- One step of a long division. -/
theorem div_step {A d T n Q R M lo : Int} (hn : 0 < n) (hA : A = d + 1000000000 * T) (hQ : Q = T / n) (hR : R = T % n) (hM : M = d + 1000000000 * R) (h1 : lo * n ≤ M) (h2 : M < (lo + 1) * n) : A / n = lo + 1000000000 * Q ∧ A % n = M - n * lo := by
  have hT : T = n * Q + R := by rw [hQ, hR]; exact (Int.mul_ediv_add_emod T n).symm
  have e : A = (M - n * lo) + n * (lo + 1000000000 * Q) := by rw [hA, hM, hT]; grind
  have h3 : (lo + 1) * n = lo * n + n := by rw [Int.add_mul, Int.one_mul]
  have h4 : lo * n = n * lo := Int.mul_comm _ _
  have hb : 0 ≤ M - n * lo ∧ M - n * lo < n := by omega
  constructor
  · rw [e, Int.add_mul_ediv_left _ _ (by omega), Int.ediv_eq_zero_of_lt hb.1 hb.2, Int.zero_add]
  · rw [e, Int.add_mul_emod_self_left, Int.emod_eq_of_lt hb.1 hb.2]
theorem neg_div {m n : Nat} (hn : 0 < n) : (-(m : Int)) / (n : Int) = if m % n = 0 then -((m / n : Nat) : Int) else -((m / n : Nat) : Int) - 1 := by
  have h := Nat.div_add_mod m n
  have hlt := Nat.mod_lt m hn
  generalize m / n = q at *
  generalize m % n = r at *
  split
  · rename_i h0
    subst h0
    have e : -(m : Int) = 0 + (n : Int) * (-(q : Int)) := by rw [← h]; push_cast; grind
    rw [e, Int.add_mul_ediv_left _ _ (by omega)]; simp
  · have e : -(m : Int) = ((n : Int) - r) + (n : Int) * (-(q : Int) - 1) := by rw [← h]; push_cast; grind
    rw [e, Int.add_mul_ediv_left _ _ (by omega), Int.ediv_eq_zero_of_lt (by omega) (by omega)]; omega
theorem C141s {s : Int} {m n : Nat} (hs : s = 1 ∨ s = -1) (hm : (dgs m).length ≤ 900) (hn : (dgs n).length ≤ 900) (m0 : 0 < m) (n0 : 0 < n) : PFD Tryz.prog 141 [wv s (dgs m), wv 1 (dgs n)] (wd (s * (m : Int) / n)) := by
  obtain ⟨hmo, hmv⟩ := dgs_ok m
  have hs0 : s ≠ 0 := by omega
  have hBn := dgs_mul n0
  have c166n := C166s (s := 1) (n := n) (.inl rfl) (by omega) n0
  have hnl : 0 < (dgs n).length := Nat.pos_of_ne_zero fun h => by have := dgs_eq_nil.1 (List.eq_nil_of_length_eq_zero h); omega
  -- what is asked of a digit
  have hdig : ∀ mid : Nat, mid ≤ 999999999 → ∃ (u1 u2 : Int) (d1 : List Int), PFD Tryz.prog 167 [vi .i64 mid] (wv u1 d1) ∧ PFD Tryz.prog 165 [wv 1 (dgs n), wv u1 d1] (wv u2 (dgs (n * mid))) ∧ few (n * mid) := fun mid hmid => by
    have h1 := C167 (n := (mid : Int)) (by omega)
    have hlen : (dgs mid).length ≤ 1 := by
      by_cases h0 : mid = 0
      · subst h0; rw [dgs_zero]; decide
      · rw [dgs_pos h0, show mid / 1000000000 = 0 by omega, dgs_zero]; simp
    have h2 := C165 (x := (n : Int)) (y := (mid : Int)) ⟨by rw [fewI, Int.natAbs_natCast]; omega, by rw [fewI, Int.natAbs_natCast]; omega⟩
    have hle : n * mid ≤ 1000000000 * n := by rw [Nat.mul_comm]; exact Nat.mul_le_mul_right n (by omega)
    have hfew : few (n * mid) := by
      have := dgs_mono hle
      simp only [few]; omega
    refine ⟨_, ((n : Int) * mid).sign, _, h1, ?_, hfew⟩
    rw [wd_pos n0] at h2
    have e : wd ((n : Int) * mid) = wv ((n : Int) * mid).sign (dgs (n * mid)) := by
      show wv _ _ = _
      rw [← Int.natCast_mul, Int.natAbs_natCast]
    rw [e] at h2
    exact h2
  have hlenm : 0 < (dgs m).length := Nat.pos_of_ne_zero fun h => by have := dgs_eq_nil.1 (List.eq_nil_of_length_eq_zero h); omega
  generalize ha : dgs m = a at *
  generalize hb : dgs n = b at *
  obtain ⟨Q, hq⟩ : ∃ Q, Q = s * (m : Int) / n := ⟨_, rfl⟩
  rw [← hq]
  have i1 : dOk (List.replicate a.length 0) := fun j hj => by
    rw [List.length_replicate] at hj
    simp [List.getD_eq_getElem?_getD, List.getElem?_replicate, hj]
  have i2 : valD ((List.replicate a.length 0).drop a.length) = valD (a.drop a.length) / n := by
    rw [List.drop_of_length_le (by simp), List.drop_of_length_le (Nat.le_refl _)]
    simp [valD]
  have i3 : dgs (valD (a.drop a.length) % n).toNat = [] := by
    rw [List.drop_of_length_le (Nat.le_refl _), show (valD [] % (n : Int)).toNat = 0 by simp [valD], dgs_zero]
  refine pi1 fn141w ?_
  (repeat' first | (refine Owe.same ?_; first | refine Owe.o ?_ | refine Owe.mk ?_ ?_) | (refine Fork.same ?_; (first | refine fkY ?_ | refine fkF ?_ | ((first | refine fkD ?_ ?_ | refine fkN ?_ ?_ | refine fkM ?_ ?_) <;> intro h))) | ((first | refine OpsL.same ?_ | refine OpsDL.same ?_); first | refine oK C163 rfl rfl rfl ?_) | refine MvQ.stay ?_)
  refine Sat.lp (fun (i, q, t) => ⟨[(7, vi .i64 ((i : Nat) - 1 : Int)), (6, .c (ints t)), (5, .c (.ms 0 (q : List Int).length)), (2, .c (.rp [dI s, .sl 1 a.length fun i => r1 (a.getD i 0)])), (3, .c (.rp [dI 1, .sl 1 b.length fun i => r1 (b.getD i 0)])), (4, .c (.bp 1 0))], [(0, rowv 3 1 r1 0 q), (1, .box [int 0, .d (.v (.slice none 0 0))])], 2⟩)
    (fun ((i, q, t) : Nat × List Int × List Int) => (i ≤ a.length ∧ q.length = a.length) ∧ dOk q ∧ valD (q.drop i) = valD (a.drop i) / n ∧ t = dgs (valD (a.drop i) % n).toNat) (fun (i, _, _) => i) (a.length, List.replicate a.length 0, []) [1, 0] ⟨⟨Nat.le_refl _, by simp⟩, i1, i2, i3.symm⟩ ?_ ?_
  · (refine qis ?_ ?_ <;> (repeat' first | exact rfl | (refine qS ?_; constructor)))
    · simp
    · exact ⟨0, rfl, by rw [Int.toNat_natCast]⟩
  rintro ⟨i, q, t⟩ ⟨⟨hi, hql⟩, ho, hv, ht⟩
  refine Fork.dec (fun hge => ?_) (fun hlt => ?_)
  · obtain ⟨j, rfl⟩ : ∃ j, i = j + 1 := ⟨i - 1, by omega⟩
    have e1 : ((j + 1 : Nat) : Int) - 1 = j := by omega
    rw [e1]
    have gj := hmo j (by omega)
    have hA := valD_drop (l := a) (k := j) (by omega)
    have hR := Int.emod_nonneg (valD (a.drop (j + 1))) (b := (n : Int)) (by omega)
    have hR2 := Int.emod_lt_of_pos (valD (a.drop (j + 1))) (b := (n : Int)) (by omega)
    obtain ⟨R, hRR⟩ : ∃ R : Nat, valD (a.drop (j + 1)) % (n : Int) = R := ⟨(valD (a.drop (j + 1)) % (n : Int)).toNat, by omega⟩
    rw [hRR, Int.toNat_natCast] at ht
    obtain ⟨hto, htv⟩ := dgs_ok R
    rw [← ht] at hto htv
    have htl : t.length ≤ b.length := by rw [ht, ← hb]; exact dgs_mono (by omega)
    obtain ⟨M, hM⟩ : ∃ M : Nat, a.getD j 0 + 1000000000 * (R : Int) = M := ⟨(a.getD j 0 + 1000000000 * (R : Int)).toNat, by omega⟩
    have hMn : M < 1000000000 * n := by omega
    have hMl : (dgs M).length ≤ b.length + 1 := by have := dgs_mono (show M ≤ 1000000000 * n by omega); omega
    have hMo : dOk (a.getD j 0 :: t) := dOk_cons.2 ⟨gj, hto⟩
    have hMv : valD (a.getD j 0 :: t) = M := by rw [valD, htv]; exact hM
    have c163 := C163 (l := a.getD j 0 :: t) (by simp; omega)
    rw [trm_eq hMo, hMv, Int.toNat_natCast] at c163
    (repeat' first | (refine Owe.same ?_; first | refine Owe.o ?_ | refine Owe.mk ?_ ?_) | (refine Fork.same ?_; (first | refine fkY ?_ | refine fkF ?_ | ((first | refine fkD ?_ ?_ | refine fkN ?_ ?_ | refine fkM ?_ ?_) <;> intro h))) | ((first | refine OpsL.same ?_ | refine OpsDL.same ?_); first | refine oK c166n rfl rfl rfl ?_) | refine MvQ.stay ?_)
    refine OpsL.frz 36 _ rfl rfl (Nat.le_refl _) ?_
    refine OpsL.as 36 (.c (ints (a.getD j 0 :: t))) ?_ ?_
    · rw [show V.c (ints (a.getD j 0 :: t)) = V.c (.d (.sl 1 (1 + t.length) fun i => r1 ((a.getD j 0 :: t).getD i 0))) by rw [Nat.add_comm]; rfl]
      refine VEq.c _ _ (.d _ _ (.sl 1 _ _ _ fun i hi => ?_))
      cases i with
      | zero => rfl
      | succ i => simp
    (repeat' first | (refine Owe.same ?_; first | refine Owe.o ?_ | refine Owe.mk ?_ ?_) | (refine Fork.same ?_; (first | refine fkY ?_ | refine fkF ?_ | ((first | refine fkD ?_ ?_ | refine fkN ?_ ?_ | refine fkM ?_ ?_) <;> intro h))) | ((first | refine OpsL.same ?_ | refine OpsDL.same ?_); first | refine oK c163 rfl rfl rfl ?_) | refine MvQ.stay ?_)
    refine Sat.lp (fun (lo, hi) => ⟨[(8, vi .i64 (lo : Nat)), (9, vi .i64 (hi : Nat)), (7, vi .i64 (j : Int)), (6, .c (ints (dgs M))), (5, .c (.ms 0 q.length)), (2, .c (.rp [dI s, .sl 1 a.length fun i => r1 (a.getD i 0)])), (3, .c (.rp [dI 1, .sl 1 b.length fun i => r1 (b.getD i 0)])), (4, .c (.bp 1 0))], [(0, rowv 3 1 r1 0 q), (1, .box [int 0, .d (.v (.slice none 0 0))])], 2⟩)
      (fun ((lo, hi) : Nat × Nat) => (lo ≤ hi ∧ hi ≤ 999999999) ∧ n * lo ≤ M ∧ M < n * (hi + 1)) (fun (lo, hi) => hi - lo) (0, 999999999) [0, 1] ⟨⟨by decide, Nat.le_refl _⟩, by omega, by omega⟩ ?_ ?_
    · (refine qis ?_ ?_ <;> (repeat' first | exact rfl | (refine qS ?_; constructor)))
    rintro ⟨lo, hi⟩ ⟨⟨hlh, hhi⟩, h1, h2⟩
    refine Fork.dec (fun hlt => ?_) (fun hlt => ?_)
    · have hlt : lo < hi := Int.ofNat_lt.1 hlt
      obtain ⟨mid, hmid⟩ : ∃ mid : Nat, mid = (lo + hi + 1) / 2 := ⟨_, rfl⟩
      have hq : ((lo : Int) + hi + 1).tdiv 2 = mid := by
        rw [Int.tdiv_eq_ediv_of_nonneg (by omega)]; omega
      obtain ⟨u1, u2, d1, c167, c165, hfew⟩ := hdig mid (by omega)
      have c164 := C164 (m := n * mid) (n := M) ⟨hfew, by omega⟩
      have hc : cmpI ((n * mid : Nat) : Int) (M : Int) = if ((n * mid : Nat) : Int) < M then -1 else if (M : Int) < ((n * mid : Nat) : Int) then 1 else 0 := rfl
      obtain ⟨c, hcc⟩ : ∃ c, c = cmpI ((n * mid : Nat) : Int) (M : Int) := ⟨_, rfl⟩
      rw [← hcc] at c164
      have hle : c ≤ 0 ↔ n * mid ≤ M := by
        rw [hcc, hc]
        split
        · omega
        · split <;> omega
      rw [← hq] at c167
      generalize dgs (n * mid) = w at *
      (repeat' first | (refine Owe.same ?_; first | refine Owe.o ?_ | refine Owe.mk ?_ ?_) | (refine Fork.same ?_; (first | refine fkY ?_ | refine fkF ?_ | ((first | refine fkD ?_ ?_ | refine fkN ?_ ?_ | refine fkM ?_ ?_) <;> intro h))) | ((first | refine OpsL.same ?_ | refine OpsDL.same ?_); first | refine oK c166n rfl rfl rfl ?_ | refine oK c167 rfl rfl rfl ?_ | refine oK c165 rfl rfl rfl ?_ | refine oK c164 rfl rfl rfl ?_) | refine MvQ.stay ?_)
      · refine again (mid, hi) [0, 1] ⟨⟨by omega, hhi⟩, hle.1 h, h2⟩ (by simp only; omega) ?_
        (refine qis ?_ ?_ <;> (repeat' first | exact rfl | (refine qS ?_; constructor)))
        exact hq
      · have h3 : ¬ n * mid ≤ M := fun hh => h (hle.2 hh)
        refine again (lo, mid - 1) [0, 1] ⟨⟨by omega, by omega⟩, h1, by rw [show mid - 1 + 1 = mid by omega]; omega⟩ (by simp only; omega) ?_
        (refine qis ?_ ?_ <;> (repeat' first | exact rfl | (refine qS ?_; constructor)))
        rw [hq]; omega
    · have hll : lo = hi := by have : ¬ lo < hi := fun hh => hlt (Int.ofNat_lt.2 hh); omega
      subst hll
      obtain ⟨u1, u2, d1, c167, c165, hfew⟩ := hdig lo (by omega)
      have c168 := C168 (m := M) (n := n * lo) ⟨by omega, hfew, h1⟩
      have hds := div_step (A := valD (a.drop j)) (d := a.getD j 0) (T := valD (a.drop (j + 1))) (n := n) (Q := valD (q.drop (j + 1))) (R := R) (M := M) (lo := lo) (by omega) hA hv hRR.symm (by omega) (by rw [Int.mul_comm]; exact_mod_cast h1) (by rw [Int.mul_comm]; exact_mod_cast h2)
      obtain ⟨hd1, hd2⟩ := hds
      have hx : (valD (a.drop j) % (n : Int)).toNat = M - n * lo := by
        rw [hd2, show (M : Int) - n * lo = ((M - n * lo : Nat) : Int) by rw [Int.natCast_sub h1, Int.natCast_mul]]; omega
      have hx2 : valD ((q.set j lo).drop j) = valD (a.drop j) / n := by
        rw [valD_drop (by rw [List.length_set]; omega), set_getD' (by omega), if_pos rfl, List.drop_set_of_lt (by omega), hd1]
      generalize dgs (n * lo) = w at *
      (repeat' first | (refine Owe.same ?_; first | refine Owe.o ?_ | refine Owe.mk ?_ ?_) | (refine Fork.same ?_; (first | refine fkY ?_ | refine fkF ?_ | ((first | refine fkD ?_ ?_ | refine fkN ?_ ?_ | refine fkM ?_ ?_) <;> intro h))) | ((first | refine OpsL.same ?_ | refine OpsDL.same ?_); first | refine oK c166n rfl rfl rfl ?_ | refine oK c167 rfl rfl rfl ?_ | refine oK c165 rfl rfl rfl ?_ | refine oK c168 rfl rfl rfl ?_) | refine MvQ.stay ?_)
      refine again (j, q.set j lo, dgs (M - n * lo)) [0, 1] ⟨⟨by omega, by rw [List.length_set]; exact hql⟩, dOk_set ho (by omega), hx2, by rw [hx]⟩ (by simp only; omega) ?_
      (refine qis ?_ ?_ <;> (repeat' first | exact rfl | (refine qS ?_; constructor)))
      · rw [List.length_set]
      · exact ⟨_, rfl, by rw [Int.toNat_natCast]⟩
  · have hi0 : i = 0 := by omega
    subst hi0
    rw [List.drop_zero, List.drop_zero, hmv] at hv
    rw [List.drop_zero, hmv] at ht
    rw [show ((m : Int) % n).toNat = m % n by omega] at ht
    rw [show (m : Int) / n = ((m / n : Nat) : Int) by simp] at hv
    have c166 := C166 (s := s) (l := q) ⟨by omega, ho, by rcases hs with h | h <;> simp [h]⟩
    rw [hv] at c166
    have hdle : m / n ≤ m := Nat.div_le_self _ _
    have hdl : (dgs (m / n)).length ≤ a.length := by rw [← ha]; exact dgs_mono hdle
    have c167 := C167 (n := 1) (by decide)
    have h1l : (dgs 1).length ≤ 1 := by rw [dgs_pos (by decide)]; simp [dgs_zero]
    have htz : t.length = 0 ↔ m % n = 0 := by
      rw [ht]
      constructor
      · intro h; exact dgs_eq_nil.1 (List.eq_nil_of_length_eq_zero h)
      · intro h; rw [h, dgs_zero]; rfl
    refine MvQ.frz 5 0 rfl rfl (Nat.le_refl _) ?_
    rcases hs with rfl | rfl
    · have hr : Q = ((m / n : Nat) : Int) := by rw [hq, Int.one_mul]; simp
      rw [Int.one_mul, ← hr] at c166
      obtain ⟨u, c, huc⟩ : ∃ u c, wd Q = wv u c := ⟨_, _, rfl⟩
      rw [huc] at c166 ⊢
      (repeat' first | (refine Owe.same ?_; first | refine Owe.o ?_ | refine Owe.mk ?_ ?_) | (refine Fork.same ?_; (first | refine fkY ?_ | refine fkF ?_ | ((first | refine fkD ?_ ?_ | refine fkN ?_ ?_ | refine fkM ?_ ?_) <;> intro h))) | ((first | refine OpsL.same ?_ | refine OpsDL.same ?_); first | refine oK c166 rfl rfl rfl ?_) | refine MvQ.stay ?_)
      (refine rqK rfl ?_; (repeat' first | exact rfl | (refine qS ?_; constructor)))
    · have hr : Q = if m % n = 0 then -((m / n : Nat) : Int) else -((m / n : Nat) : Int) - 1 := by
        rw [hq, Int.neg_mul, Int.one_mul]; exact neg_div n0
      rw [Int.neg_mul, Int.one_mul] at c166
      by_cases hz : m % n = 0
      · rw [if_pos hz] at hr
        rw [← hr] at c166
        have htz := htz.2 hz
        obtain ⟨u, c, huc⟩ : ∃ u c, wd Q = wv u c := ⟨_, _, rfl⟩
        rw [huc] at c166 ⊢
        (repeat' first | (refine Owe.same ?_; first | refine Owe.o ?_ | refine Owe.mk ?_ ?_) | (refine Fork.same ?_; (first | refine fkY ?_ | refine fkF ?_ | ((first | refine fkD ?_ ?_ | refine fkN ?_ ?_ | refine fkM ?_ ?_) <;> intro h))) | ((first | refine OpsL.same ?_ | refine OpsDL.same ?_); first | refine oK c166 rfl rfl rfl ?_) | refine MvQ.stay ?_)
        (refine rqK rfl ?_; (repeat' first | exact rfl | (refine qS ?_; constructor)))
      · rw [if_neg hz] at hr
        have htz : 0 < t.length := Nat.pos_of_ne_zero fun h => hz (htz.1 h)
        have c169 := C169 (x := -((m / n : Nat) : Int)) (y := 1) ⟨by rw [fewI, Int.natAbs_neg, Int.natAbs_natCast]; omega, by rw [fewI, show (1 : Int).natAbs = 1 from rfl]; omega, by
          rw [Int.natAbs_neg, Int.natAbs_natCast, show (1 : Int).natAbs = 1 from rfl]
          have := dgs_mono (show m / n + 1 ≤ 1000000000 * m by omega)
          have := dgs_mul m0
          rw [ha] at this
          omega⟩
        rw [← hr] at c169
        obtain ⟨u, c, huc⟩ : ∃ u c, wd Q = wv u c := ⟨_, _, rfl⟩
        obtain ⟨u2, c2, huc2⟩ : ∃ u c, wd (-((m / n : Nat) : Int)) = wv u c := ⟨_, _, rfl⟩
        obtain ⟨u3, c3, huc3⟩ : ∃ u c, wd 1 = wv u c := ⟨_, _, rfl⟩
        rw [huc] at c169 ⊢
        rw [huc2] at c166 c169
        rw [huc3] at c167 c169
        (repeat' first | (refine Owe.same ?_; first | refine Owe.o ?_ | refine Owe.mk ?_ ?_) | (refine Fork.same ?_; (first | refine fkY ?_ | refine fkF ?_ | ((first | refine fkD ?_ ?_ | refine fkN ?_ ?_ | refine fkM ?_ ?_) <;> intro h))) | ((first | refine OpsL.same ?_ | refine OpsDL.same ?_); first | refine oK c166 rfl rfl rfl ?_ | refine oK c167 rfl rfl rfl ?_ | refine oK c169 rfl rfl rfl ?_) | refine MvQ.stay ?_)
        (refine rqK rfl ?_; (repeat' first | exact rfl | (refine qS ?_; constructor)))
theorem C141 {x y : Int} : (fewI 900 x ∧ fewI 900 y ∧ 0 < y) → PFD Tryz.prog 141 [wd x, wd y] (wd (x / y)) := fun ⟨hx, hy, h0⟩ => by
  obtain ⟨n, rfl⟩ : ∃ n : Nat, y = n := ⟨y.toNat, by omega⟩
  have n0 : 0 < n := by omega
  rw [fewI, Int.natAbs_natCast] at hy
  rw [wd_pos n0]
  rcases Int.lt_trichotomy x 0 with h | h | h
  · obtain ⟨m, rfl⟩ : ∃ m : Nat, x = -(m : Int) := ⟨x.natAbs, by omega⟩
    rw [fewI, Int.natAbs_neg, Int.natAbs_natCast] at hx
    rw [wd_neg (by omega)]
    have := C141s (s := -1) (m := m) (n := n) (.inr rfl) hx hy (by omega) n0
    rwa [Int.neg_mul, Int.one_mul] at this
  · subst h
    rw [Int.zero_ediv, wd_zero]
    have key : ∀ b : List Int, PFD Tryz.prog 141 [wv 0 [], wv 1 b] (wv 0 []) := fun b => by
      refine pi1 fn141w ?_
      (repeat' first | (refine Owe.same ?_; first | refine Owe.o ?_ | refine Owe.mk ?_ ?_) | (refine Fork.same ?_; (first | refine fkY ?_ | refine fkF ?_ | ((first | refine fkD ?_ ?_ | refine fkN ?_ ?_ | refine fkM ?_ ?_) <;> intro h))) | ((first | refine OpsL.same ?_ | refine OpsDL.same ?_); first | refine oK C163 rfl rfl rfl ?_) | refine MvQ.stay ?_)
      (refine rqK rfl ?_; (repeat' first | exact rfl | (refine qS ?_; constructor)))
    exact key _
  · obtain ⟨m, rfl⟩ : ∃ m : Nat, x = (m : Int) := ⟨x.natAbs, by omega⟩
    rw [fewI, Int.natAbs_natCast] at hx
    rw [wd_pos (by omega)]
    have := C141s (s := 1) (m := m) (n := n) (.inl rfl) hx hy (by omega) n0
    rwa [Int.one_mul] at this
end Go.Pw

set_option linter.unusedSimpArgs false
set_option linter.unusedVariables false
set_option maxHeartbeats 1000000
namespace Go.Pw
set_option maxRecDepth 2000
open Go Go.Proofs A1 A2 A3 A4
theorem mkR {x : Int} {n : Nat} (hn : 0 < n) : (mkRat x n).num = x / (x.natAbs.gcd n : Nat) ∧ (mkRat x n).den = n / x.natAbs.gcd n := by
  unfold mkRat
  rw [dif_neg (by omega), Rat.normalize_eq]
  exact ⟨rfl, rfl⟩
theorem dgs_le {n k : Nat} (h : n < 1000000000 ^ k) : (dgs n).length ≤ k := by
  by_cases h0 : n = 0
  · subst h0; rw [dgs_zero]; exact Nat.zero_le _
  · have h1 := dgs_lo h0
    refine Nat.le_of_not_lt fun hh => ?_
    have := Nat.pow_le_pow_right (show 0 < 1000000000 by decide) (show k ≤ (dgs n).length - 1 by omega)
    omega
theorem few_2 {n : Nat} {k : Nat} (h : (dgs n).length ≤ k) : (dgs (n + n)).length ≤ k + 1 := by
  by_cases h0 : n = 0
  · subst h0; rw [dgs_zero]; exact Nat.zero_le _
  · have := dgs_mono (show n + n ≤ 1000000000 * n by omega)
    have := dgs_mul (n := n) (by omega)
    omega
theorem C181 {x y : Int} : (fewI 400 x ∧ fewI 400 y) → PFD Tryz.prog 181 [wd x, wd y] (wd ((x.natAbs.gcd y.natAbs : Nat) : Int)) := fun ⟨hx, hy⟩ => by
  have cx := C184 (z := x)
  have cy := C184 (z := y)
  have cs := fun b : Nat => C180 (z := (b : Int))
  obtain ⟨a, ha⟩ : ∃ a, a = x.natAbs := ⟨_, rfl⟩
  obtain ⟨b, hb⟩ : ∃ b, b = y.natAbs := ⟨_, rfl⟩
  rw [fewI, ← ha] at hx
  rw [fewI, ← hb] at hy
  rw [← ha] at cx ⊢
  rw [← hb] at cy ⊢
  obtain ⟨sx, dx, ex⟩ : ∃ u c, wd x = wv u c := ⟨_, _, rfl⟩
  obtain ⟨sy, dy, ey⟩ : ∃ u c, wd y = wv u c := ⟨_, _, rfl⟩
  rw [ex] at cx ⊢
  rw [ey] at cy ⊢
  obtain ⟨g, hg⟩ : ∃ g, g = a.gcd b := ⟨_, rfl⟩
  rw [← hg]
  -- the numbers of the loop, as the program holds them
  obtain ⟨S, hS⟩ : ∃ S : Nat → Int, S = fun n : Nat => (n : Int).sign := ⟨_, rfl⟩
  have hw : ∀ n : Nat, wd (n : Int) = wv (S n) (dgs n) := fun n => by
    rw [hS]; rfl
  have hS0 : ∀ n, S n = 0 ↔ n = 0 := fun n => by rw [hS]; simp only; rw [Int.sign_eq_zero_iff_zero]; omega
  rw [hw] at cx cy ⊢
  refine pi1 fn181 ?_
  (repeat' first | (refine Owe.same ?_; first | refine Owe.o ?_ | refine Owe.mk ?_ ?_) | (refine Fork.same ?_; (first | refine fkY ?_ | refine fkF ?_ | ((first | refine fkD ?_ ?_ | refine fkN ?_ ?_ | refine fkM ?_ ?_) <;> intro h))) | ((first | refine OpsL.same ?_ | refine OpsDL.same ?_); first | refine oK cx rfl rfl rfl ?_ | refine oK cy rfl rfl rfl ?_) | refine MvQ.stay ?_)
  refine Sat.lp (fun (p, q) => ⟨[(2, .c (.bp 0 0)), (3, .c (.bp 1 0)), (4, .c (.bp 2 0))], [(0, .box [int (S p), ints (dgs p)]), (1, .box [int (S q), ints (dgs q)]), (2, .box [int 0, .d (.v (.slice none 0 0))])], 3⟩)
    (fun ((p, q) : Nat × Nat) => ((dgs p).length ≤ 400 ∧ (dgs q).length ≤ 400) ∧ g = p.gcd q) (fun (p, q) => q) (a, b) [0, 1, 2] ⟨⟨hx, hy⟩, hg⟩ ?_ ?_
  · (refine qis ?_ ?_ <;> (repeat' first | exact rfl | (refine qS ?_; constructor)))
  rintro ⟨p, q⟩ ⟨⟨hp, hq⟩, hgg⟩
  have c180 := cs q
  have hSq := hS0 q
  rw [hw q, show ((q : Nat) : Int).sign = S q by rw [hS]] at c180
  by_cases hq0 : q = 0
  · have h0 := hSq.2 hq0
    have : g = p := by rw [hgg, hq0, Nat.gcd_zero_right]
    subst this
    (repeat' first | (refine Owe.same ?_; first | refine Owe.o ?_ | refine Owe.mk ?_ ?_) | (refine Fork.same ?_; (first | refine fkY ?_ | refine fkF ?_ | ((first | refine fkD ?_ ?_ | refine fkN ?_ ?_ | refine fkM ?_ ?_) <;> intro h))) | ((first | refine OpsL.same ?_ | refine OpsDL.same ?_); first | refine oK c180 rfl rfl rfl ?_) | refine MvQ.stay ?_)
    (refine rqK rfl ?_; (repeat' first | exact rfl | (refine qS ?_; constructor)))
  · have h0 : S q ≠ 0 := fun h => hq0 (hSq.1 h)
    have c141 := C141 (x := (p : Int)) (y := (q : Int)) ⟨by rw [fewI, Int.natAbs_natCast]; omega, by rw [fewI, Int.natAbs_natCast]; omega, by omega⟩
    rw [← Int.natCast_ediv, hw p, hw q, hw (p / q)] at c141
    have hpq := dgs_mono (Nat.div_le_self p q)
    have hle : p / q * q ≤ p := Nat.div_mul_le_self p q
    have hpq2 := dgs_mono hle
    have c165 := C165 (x := ((p / q : Nat) : Int)) (y := (q : Int)) ⟨by rw [fewI, Int.natAbs_natCast]; omega, by rw [fewI, Int.natAbs_natCast]; omega⟩
    rw [← Int.natCast_mul, hw (p / q), hw q, hw (p / q * q)] at c165
    have c169 := C169 (x := (p : Int)) (y := ((p / q * q : Nat) : Int)) ⟨by rw [fewI, Int.natAbs_natCast]; omega, by rw [fewI, Int.natAbs_natCast]; omega, by
      rw [Int.natAbs_natCast, Int.natAbs_natCast]
      have h1 := dgs_mono (show p + p / q * q ≤ p + p by omega)
      have h2 := few_2 hp
      omega⟩
    have hmod : p - p / q * q = p % q := by
      have := Nat.div_add_mod p q
      rw [Nat.mul_comm] at this
      omega
    rw [← Int.natCast_sub hle, hmod, hw p, hw (p / q * q), hw (p % q)] at c169
    have hml := Nat.mod_lt p (show 0 < q by omega)
    have hmd := dgs_mono (show p % q ≤ q by omega)
    generalize dgs (p / q) = d1 at *
    generalize dgs (p / q * q) = d2 at *
    generalize S (p / q) = s1 at *
    generalize S (p / q * q) = s2 at *
    (repeat' first | (refine Owe.same ?_; first | refine Owe.o ?_ | refine Owe.mk ?_ ?_) | (refine Fork.same ?_; (first | refine fkY ?_ | refine fkF ?_ | ((first | refine fkD ?_ ?_ | refine fkN ?_ ?_ | refine fkM ?_ ?_) <;> intro h))) | ((first | refine OpsL.same ?_ | refine OpsDL.same ?_); first | refine oK c180 rfl rfl rfl ?_ | refine oK c141 rfl rfl rfl ?_ | refine oK c165 rfl rfl rfl ?_ | refine oK c169 rfl rfl rfl ?_) | refine MvQ.stay ?_)
    refine again (q, p % q) [0, 1, 2] ⟨⟨hq, by omega⟩, by rw [hgg, Nat.gcd_comm, Nat.gcd_rec, Nat.gcd_comm]⟩ hml ?_
    (refine qis ?_ ?_ <;> (repeat' first | exact rfl | (refine qS ?_; constructor)))
/-- A fraction, as the program holds it. -/
abbrev rtt (x y : Int) : V := .agg [int x.sign, ints (dgs x.natAbs), int y.sign, ints (dgs y.natAbs)]
abbrev rq (q : Rat) : V := rtt q.num q.den
abbrev r4 (s : Int) (a : List Int) (t : Int) (b : List Int) : V := .agg [int s, ints a, int t, ints b]
theorem C170 {x : Int} {n : Nat} : (fewI 400 x ∧ (dgs n).length ≤ 400 ∧ 0 < n) → PFD Tryz.prog 170 [wd x, wd (n : Int)] (rq (mkRat x n)) := fun ⟨hx, hn, h0⟩ => by
  obtain ⟨e1, e2⟩ := mkR (x := x) h0
  rw [rq, e1, e2]
  clear e1 e2
  have c180 := C180 (z := (n : Int))
  rw [Int.sign_eq_one_of_pos (by omega)] at c180
  have c181 := C181 (x := x) (y := (n : Int)) ⟨hx, by rw [fewI, Int.natAbs_natCast]; exact hn⟩
  rw [Int.natAbs_natCast] at c181
  have hg0 : 0 < x.natAbs.gcd n := Nat.gcd_pos_of_pos_right _ h0
  have hgn : x.natAbs.gcd n ≤ n := Nat.gcd_le_right _ h0
  generalize x.natAbs.gcd n = g at *
  have hgd := dgs_mono hgn
  have c167 := C167 (n := 1) (by decide)
  have h1l : (dgs 1).length ≤ 1 := by rw [dgs_pos (by decide)]; simp [dgs_zero]
  have c171 := C171 (x := (g : Int)) (y := 1) ⟨by rw [fewI, Int.natAbs_natCast]; omega, by rw [fewI, show (1 : Int).natAbs = 1 from rfl]; omega, by
    rw [Int.natAbs_natCast, show (1 : Int).natAbs = 1 from rfl]
    have := dgs_mono (show g + 1 ≤ g + g by omega)
    have := few_2 (n := g) (k := 400) (by omega)
    omega⟩
  have hsg : ((g : Int) - 1).sign = 0 ↔ g = 1 := by rw [Int.sign_eq_zero_iff_zero]; omega
  obtain ⟨c, hc⟩ : ∃ c, c = ((g : Int) - 1).sign := ⟨_, rfl⟩
  rw [← hc] at c171 hsg
  clear hc
  have c141 := C141 (x := x) (y := (g : Int)) ⟨by simp only [fewI] at hx ⊢; omega, by rw [fewI, Int.natAbs_natCast]; omega, by omega⟩
  have c141n := C141 (x := (n : Int)) (y := (g : Int)) ⟨by rw [fewI, Int.natAbs_natCast]; omega, by rw [fewI, Int.natAbs_natCast]; omega, by omega⟩
  rw [← Int.natCast_ediv] at c141n
  by_cases hg1 : g = 1
  · have hc0 := hsg.2 hg1
    rw [hg1, show ((1 : Nat) : Int) = 1 from rfl, Int.ediv_one, Nat.div_one]
    have key : ∀ (s t u v : Int) (a b e f : List Int), PFD Tryz.prog 180 [wv t b] (vi .i64 1) → PFD Tryz.prog 181 [wv s a, wv t b] (wv u e) → PFD Tryz.prog 167 [vi .i64 1] (wv v f) → PFD Tryz.prog 171 [wv u e, wv v f] (vi .i64 0) → PFD Tryz.prog 170 [wv s a, wv t b] (r4 s a t b) := fun s t u v a b e f q1 q2 q3 q4 => by
      refine pi1 fn170 ?_
      (repeat' first | (refine Owe.same ?_; first | refine Owe.o ?_ | refine Owe.mk ?_ ?_) | (refine Fork.same ?_; (first | refine fkY ?_ | refine fkF ?_ | ((first | refine fkD ?_ ?_ | refine fkN ?_ ?_ | refine fkM ?_ ?_) <;> intro h))) | ((first | refine OpsL.same ?_ | refine OpsDL.same ?_); first | refine oK q1 rfl rfl rfl ?_ | refine oK q2 rfl rfl rfl ?_ | refine oK q3 rfl rfl rfl ?_ | refine oK q4 rfl rfl rfl ?_) | refine MvQ.stay ?_)
      (refine rqK rfl ?_; (repeat' first | exact rfl | (refine qS ?_; constructor)))
    rw [hc0] at c171
    exact key _ _ _ _ _ _ _ _ c180 c181 c167 c171
  · have hc0 : c ≠ 0 := fun h => hg1 (hsg.1 h)
    have key : ∀ (s t u v s' t' : Int) (a b e f a' b' : List Int), PFD Tryz.prog 180 [wv t b] (vi .i64 1) → PFD Tryz.prog 181 [wv s a, wv t b] (wv u e) → PFD Tryz.prog 167 [vi .i64 1] (wv v f) → PFD Tryz.prog 171 [wv u e, wv v f] (vi .i64 c) → PFD Tryz.prog 141 [wv s a, wv u e] (wv s' a') → PFD Tryz.prog 141 [wv t b, wv u e] (wv t' b') → PFD Tryz.prog 170 [wv s a, wv t b] (r4 s' a' t' b') := fun s t u v s' t' a b e f a' b' q1 q2 q3 q4 q5 q6 => by
      refine pi1 fn170 ?_
      (repeat' first | (refine Owe.same ?_; first | refine Owe.o ?_ | refine Owe.mk ?_ ?_) | (refine Fork.same ?_; (first | refine fkY ?_ | refine fkF ?_ | ((first | refine fkD ?_ ?_ | refine fkN ?_ ?_ | refine fkM ?_ ?_) <;> intro h))) | ((first | refine OpsL.same ?_ | refine OpsDL.same ?_); first | refine oK q1 rfl rfl rfl ?_ | refine oK q2 rfl rfl rfl ?_ | refine oK q3 rfl rfl rfl ?_ | refine oK q4 rfl rfl rfl ?_) | refine MvQ.stay ?_)
      ((first | refine OpsL.same ?_ | refine OpsDL.same ?_); first | refine pK q5 rfl rfl ?_)
      (repeat' first | (refine Owe.same ?_; first | refine Owe.o ?_ | refine Owe.mk ?_ ?_) | (refine Fork.same ?_; (first | refine fkY ?_ | refine fkF ?_ | ((first | refine fkD ?_ ?_ | refine fkN ?_ ?_ | refine fkM ?_ ?_) <;> intro h))) | ((first | refine OpsL.same ?_ | refine OpsDL.same ?_); first | refine oK q6 rfl rfl rfl ?_) | refine MvQ.stay ?_)
      (refine rqK rfl ?_; (repeat' first | exact rfl | (refine qS ?_; constructor)))
    exact key _ _ _ _ _ _ _ _ _ _ _ _ c180 c181 c167 c171 c141 c141n
theorem mk_bd {x : Int} {n : Nat} (h : 0 < n) : (mkRat x n).num.natAbs ≤ x.natAbs ∧ (mkRat x n).den ≤ n := by
  obtain ⟨e1, e2⟩ := mkR (x := x) h
  rw [e1, e2]
  refine ⟨?_, Nat.div_le_self _ _⟩
  exact Int.natAbs_ediv_le_natAbs _ _
/-- Fractions of parts that are not too great. -/
def bnd (q : Rat) : Prop := q.num.natAbs < 1000000000 ^ 20 ∧ q.den < 1000000000 ^ 20
theorem C142 {n : Int} : (-9000000000000000000 ≤ n ∧ n ≤ 9000000000000000000) → PFD Tryz.prog 142 [vi .i64 n] (rq n) := fun h => by
  have c1 := C167 h
  have c2 := C167 (n := 1) (by decide)
  have key : ∀ (s t : Int) (a b : List Int), PFD Tryz.prog 167 [vi .i64 n] (wv s a) → PFD Tryz.prog 167 [vi .i64 1] (wv t b) → PFD Tryz.prog 142 [vi .i64 n] (r4 s a t b) := fun s t a b q1 q2 => by
    refine pi1 fn142 ?_
    ((first | refine OpsL.same ?_ | refine OpsDL.same ?_); first | refine pK q1 rfl rfl ?_)
    (repeat' first | (refine Owe.same ?_; first | refine Owe.o ?_ | refine Owe.mk ?_ ?_) | (refine Fork.same ?_; (first | refine fkY ?_ | refine fkF ?_ | ((first | refine fkD ?_ ?_ | refine fkN ?_ ?_ | refine fkM ?_ ?_) <;> intro h))) | ((first | refine OpsL.same ?_ | refine OpsDL.same ?_); first | refine oK q2 rfl rfl rfl ?_) | refine MvQ.stay ?_)
    (refine rqK rfl ?_; (repeat' first | exact rfl | (refine qS ?_; constructor)))
  exact key _ _ _ _ c1 c2
theorem C143 {x : Int} {n : Nat} : ((-9000000000000000000 ≤ x ∧ x ≤ 9000000000000000000) ∧ 0 < n ∧ n ≤ 9000000000000000000) → PFD Tryz.prog 143 [vi .i64 x, vi .i64 n] (rq (mkRat x n)) := fun ⟨hx, h0, hn⟩ => by
  have c1 := C167 hx
  have c2 := C167 (n := (n : Int)) (by omega)
  have l1 : (dgs x.natAbs).length ≤ 3 := dgs_le (by omega)
  have l2 : (dgs n).length ≤ 3 := dgs_le (by omega)
  have c3 := C170 (x := x) (n := n) ⟨by simp only [fewI]; omega, by omega, h0⟩
  have key : ∀ (s t s' t' : Int) (a b a' b' : List Int), PFD Tryz.prog 167 [vi .i64 x] (wv s a) → PFD Tryz.prog 167 [vi .i64 n] (wv t b) → PFD Tryz.prog 170 [wv s a, wv t b] (r4 s' a' t' b') → PFD Tryz.prog 143 [vi .i64 x, vi .i64 n] (r4 s' a' t' b') := fun s t s' t' a b a' b' q1 q2 q3 => by
    refine pi1 fn143 ?_
    ((first | refine OpsL.same ?_ | refine OpsDL.same ?_); first | refine pK q1 rfl rfl ?_)
    (repeat' first | (refine Owe.same ?_; first | refine Owe.o ?_ | refine Owe.mk ?_ ?_) | (refine Fork.same ?_; (first | refine fkY ?_ | refine fkF ?_ | ((first | refine fkD ?_ ?_ | refine fkN ?_ ?_ | refine fkM ?_ ?_) <;> intro h))) | ((first | refine OpsL.same ?_ | refine OpsDL.same ?_); first | refine oK q2 rfl rfl rfl ?_ | refine oK q3 rfl rfl rfl ?_) | refine MvQ.stay ?_)
    (refine rqK rfl ?_; (repeat' first | exact rfl | (refine qS ?_; constructor)))
  exact key _ _ _ _ _ _ _ _ c1 c2 c3
end Go.Pw


set_option linter.unusedSimpArgs false
set_option linter.unusedVariables false
set_option maxHeartbeats 1000000
namespace Go.Pw
set_option maxRecDepth 2000
open Go Go.Proofs A1 A2 A3 A4
theorem few_mul {a b : Nat} (ha : a < 1000000000 ^ 20) (hb : b < 1000000000 ^ 20) : a * b < 1000000000 ^ 40 := by
  have := Nat.mul_lt_mul'' ha hb
  rwa [← Nat.pow_add] at this
theorem p40 : 1000000000 ^ 40 + 1000000000 ^ 40 < 1000000000 ^ 41 := by decide +kernel
theorem pr165 {x y : Int} (hx : x.natAbs < 1000000000 ^ 20) (hy : y.natAbs < 1000000000 ^ 20) : PFD Tryz.prog 165 [wd x, wd y] (wd (x * y)) ∧ (x * y).natAbs < 1000000000 ^ 40 := by
  have h1 := dgs_le hx
  have h2 := dgs_le hy
  exact ⟨C165 ⟨by simp only [fewI]; omega, by simp only [fewI]; omega⟩, by rw [Int.natAbs_mul]; exact few_mul hx hy⟩
theorem C145 {a b : Rat} : (bnd a ∧ bnd b) → PFD Tryz.prog 145 [rq a, rq b] (vi .i64 (a.num * b.den - b.num * a.den).sign) := fun ⟨ha, hb⟩ => by
  obtain ⟨c1, l1⟩ := pr165 (x := a.num) (y := (b.den : Int)) ha.1 (by rw [Int.natAbs_natCast]; exact hb.2)
  obtain ⟨c2, l2⟩ := pr165 (x := b.num) (y := (a.den : Int)) hb.1 (by rw [Int.natAbs_natCast]; exact ha.2)
  have c3 := C171 (x := a.num * b.den) (y := b.num * a.den) ⟨by have := dgs_le l1; simp only [fewI]; omega, by have := dgs_le l2; simp only [fewI]; omega, by
    have := dgs_le (k := 41) (n := (a.num * b.den).natAbs + (b.num * a.den).natAbs) (by have := p40; omega)
    omega⟩
  have key : ∀ (s t s' t' u1 u2 r : Int) (a b a' b' d1 d2 : List Int), PFD Tryz.prog 165 [wv s a, wv t' b'] (wv u1 d1) → PFD Tryz.prog 165 [wv s' a', wv t b] (wv u2 d2) → PFD Tryz.prog 171 [wv u1 d1, wv u2 d2] (vi .i64 r) → PFD Tryz.prog 145 [r4 s a t b, r4 s' a' t' b'] (vi .i64 r) := fun s t s' t' u1 u2 r a b a' b' d1 d2 q1 q2 q3 => by
    refine pi1 fn145 ?_
    (repeat' first | (refine Owe.same ?_; first | refine Owe.o ?_ | refine Owe.mk ?_ ?_) | (refine Fork.same ?_; (first | refine fkD ?_ ?_ | refine fkN ?_ ?_ | refine fkM ?_ ?_) <;> intro h) | refine MvQ.stay ?_)
    ((first | refine OpsL.same ?_ | refine OpsDL.same ?_); first | refine pK q1 rfl rfl ?_)
    (repeat' first | (refine Owe.same ?_; first | refine Owe.o ?_ | refine Owe.mk ?_ ?_) | (refine Fork.same ?_; (first | refine fkD ?_ ?_ | refine fkN ?_ ?_ | refine fkM ?_ ?_) <;> intro h) | refine MvQ.stay ?_)
    ((first | refine OpsL.same ?_ | refine OpsDL.same ?_); first | refine pK q2 rfl rfl ?_)
    (repeat' first | (refine Owe.same ?_; first | refine Owe.o ?_ | refine Owe.mk ?_ ?_) | (refine Fork.same ?_; (first | refine fkY ?_ | refine fkF ?_ | ((first | refine fkD ?_ ?_ | refine fkN ?_ ?_ | refine fkM ?_ ?_) <;> intro h))) | ((first | refine OpsL.same ?_ | refine OpsDL.same ?_); first | refine oK q3 rfl rfl rfl ?_) | refine MvQ.stay ?_)
    (refine rqK rfl ?_; (repeat' first | exact rfl | (refine qS ?_; constructor)))
  exact key _ _ _ _ _ _ _ _ _ _ _ _ _ c1 c2 c3
theorem C146 {a b : Rat} : (bnd a ∧ bnd b) → PFD Tryz.prog 146 [rq a, rq b] (rq (a + b)) := fun ⟨ha, hb⟩ => by
  obtain ⟨c1, l1⟩ := pr165 (x := a.num) (y := (b.den : Int)) ha.1 (by rw [Int.natAbs_natCast]; exact hb.2)
  obtain ⟨c2, l2⟩ := pr165 (x := b.num) (y := (a.den : Int)) hb.1 (by rw [Int.natAbs_natCast]; exact ha.2)
  obtain ⟨c4, l4⟩ := pr165 (x := (a.den : Int)) (y := (b.den : Int)) (by rw [Int.natAbs_natCast]; exact ha.2) (by rw [Int.natAbs_natCast]; exact hb.2)
  have hs : (a.num * b.den).natAbs + (b.num * a.den).natAbs < 1000000000 ^ 41 := by have := p40; omega
  have hsl := dgs_le hs
  have c3 := C172 (x := a.num * b.den) (y := b.num * a.den) ⟨by have := dgs_le l1; simp only [fewI]; omega, by have := dgs_le l2; simp only [fewI]; omega, by omega⟩
  rw [← Int.natCast_mul] at c4 l4
  rw [Int.natAbs_natCast] at l4
  have c5 := C170 (x := a.num * b.den + b.num * a.den) (n := a.den * b.den) ⟨by
    have h1 := dgs_mono (show (a.num * b.den + b.num * a.den).natAbs ≤ (a.num * b.den).natAbs + (b.num * a.den).natAbs from Int.natAbs_add_le _ _)
    simp only [fewI]; omega, by have := dgs_le l4; omega, Nat.mul_pos a.den_pos b.den_pos⟩
  rw [← Rat.add_def'] at c5
  have key : ∀ (s t s' t' u1 u2 u3 u4 w1 w2 : Int) (a b a' b' d1 d2 d3 d4 e1 e2 : List Int), PFD Tryz.prog 165 [wv s a, wv t' b'] (wv u1 d1) → PFD Tryz.prog 165 [wv s' a', wv t b] (wv u2 d2) → PFD Tryz.prog 172 [wv u1 d1, wv u2 d2] (wv u3 d3) → PFD Tryz.prog 165 [wv t b, wv t' b'] (wv u4 d4) → PFD Tryz.prog 170 [wv u3 d3, wv u4 d4] (r4 w1 e1 w2 e2) → PFD Tryz.prog 146 [r4 s a t b, r4 s' a' t' b'] (r4 w1 e1 w2 e2) := fun s t s' t' u1 u2 u3 u4 w1 w2 a b a' b' d1 d2 d3 d4 e1 e2 q1 q2 q3 q4 q5 => by
    refine pi1 fn146 ?_
    (repeat' first | (refine Owe.same ?_; first | refine Owe.o ?_ | refine Owe.mk ?_ ?_) | (refine Fork.same ?_; (first | refine fkD ?_ ?_ | refine fkN ?_ ?_ | refine fkM ?_ ?_) <;> intro h) | refine MvQ.stay ?_)
    ((first | refine OpsL.same ?_ | refine OpsDL.same ?_); first | refine pK q1 rfl rfl ?_)
    (repeat' first | (refine Owe.same ?_; first | refine Owe.o ?_ | refine Owe.mk ?_ ?_) | (refine Fork.same ?_; (first | refine fkD ?_ ?_ | refine fkN ?_ ?_ | refine fkM ?_ ?_) <;> intro h) | refine MvQ.stay ?_)
    ((first | refine OpsL.same ?_ | refine OpsDL.same ?_); first | refine pK q2 rfl rfl ?_)
    (repeat' first | (refine Owe.same ?_; first | refine Owe.o ?_ | refine Owe.mk ?_ ?_) | (refine Fork.same ?_; (first | refine fkY ?_ | refine fkF ?_ | ((first | refine fkD ?_ ?_ | refine fkN ?_ ?_ | refine fkM ?_ ?_) <;> intro h))) | ((first | refine OpsL.same ?_ | refine OpsDL.same ?_); first | refine oK q3 rfl rfl rfl ?_) | refine MvQ.stay ?_)
    ((first | refine OpsL.same ?_ | refine OpsDL.same ?_); first | refine pK q4 rfl rfl ?_)
    (repeat' first | (refine Owe.same ?_; first | refine Owe.o ?_ | refine Owe.mk ?_ ?_) | (refine Fork.same ?_; (first | refine fkY ?_ | refine fkF ?_ | ((first | refine fkD ?_ ?_ | refine fkN ?_ ?_ | refine fkM ?_ ?_) <;> intro h))) | ((first | refine OpsL.same ?_ | refine OpsDL.same ?_); first | refine oK q5 rfl rfl rfl ?_) | refine MvQ.stay ?_)
    (refine rqK rfl ?_; (repeat' first | exact rfl | (refine qS ?_; constructor)))
  exact key _ _ _ _ _ _ _ _ _ _ _ _ _ _ _ _ _ _ _ _ c1 c2 c3 c4 c5
theorem C147 {a b : Rat} : (bnd a ∧ bnd b) → PFD Tryz.prog 147 [rq a, rq b] (rq (a * b)) := fun ⟨ha, hb⟩ => by
  obtain ⟨c1, l1⟩ := pr165 (x := a.num) (y := b.num) ha.1 hb.1
  obtain ⟨c4, l4⟩ := pr165 (x := (a.den : Int)) (y := (b.den : Int)) (by rw [Int.natAbs_natCast]; exact ha.2) (by rw [Int.natAbs_natCast]; exact hb.2)
  rw [← Int.natCast_mul] at c4 l4
  rw [Int.natAbs_natCast] at l4
  have c5 := C170 (x := a.num * b.num) (n := a.den * b.den) ⟨by have := dgs_le l1; simp only [fewI]; omega, by have := dgs_le l4; omega, Nat.mul_pos a.den_pos b.den_pos⟩
  rw [← Rat.mul_def'] at c5
  have key : ∀ (s t s' t' u1 u4 w1 w2 : Int) (a b a' b' d1 d4 e1 e2 : List Int), PFD Tryz.prog 165 [wv s a, wv s' a'] (wv u1 d1) → PFD Tryz.prog 165 [wv t b, wv t' b'] (wv u4 d4) → PFD Tryz.prog 170 [wv u1 d1, wv u4 d4] (r4 w1 e1 w2 e2) → PFD Tryz.prog 147 [r4 s a t b, r4 s' a' t' b'] (r4 w1 e1 w2 e2) := fun s t s' t' u1 u4 w1 w2 a b a' b' d1 d4 e1 e2 q1 q4 q5 => by
    refine pi1 fn147 ?_
    (repeat' first | (refine Owe.same ?_; first | refine Owe.o ?_ | refine Owe.mk ?_ ?_) | (refine Fork.same ?_; (first | refine fkD ?_ ?_ | refine fkN ?_ ?_ | refine fkM ?_ ?_) <;> intro h) | refine MvQ.stay ?_)
    ((first | refine OpsL.same ?_ | refine OpsDL.same ?_); first | refine pK q1 rfl rfl ?_)
    (repeat' first | (refine Owe.same ?_; first | refine Owe.o ?_ | refine Owe.mk ?_ ?_) | (refine Fork.same ?_; (first | refine fkD ?_ ?_ | refine fkN ?_ ?_ | refine fkM ?_ ?_) <;> intro h) | refine MvQ.stay ?_)
    ((first | refine OpsL.same ?_ | refine OpsDL.same ?_); first | refine pK q4 rfl rfl ?_)
    (repeat' first | (refine Owe.same ?_; first | refine Owe.o ?_ | refine Owe.mk ?_ ?_) | (refine Fork.same ?_; (first | refine fkY ?_ | refine fkF ?_ | ((first | refine fkD ?_ ?_ | refine fkN ?_ ?_ | refine fkM ?_ ?_) <;> intro h))) | ((first | refine OpsL.same ?_ | refine OpsDL.same ?_); first | refine oK q5 rfl rfl rfl ?_) | refine MvQ.stay ?_)
    (refine rqK rfl ?_; (repeat' first | exact rfl | (refine qS ?_; constructor)))
  exact key _ _ _ _ _ _ _ _ _ _ _ _ _ _ _ _ c1 c4 c5
theorem C173 {a : Rat} : PFD Tryz.prog 173 [rq a] (rq (-a)) := by
  have c := C149 (z := a.num)
  have key : ∀ (s t s' : Int) (a b a' : List Int), PFD Tryz.prog 149 [wv s a] (wv s' a') → PFD Tryz.prog 173 [r4 s a t b] (r4 s' a' t b) := fun s t s' a b a' q => by
    refine pi1 fn173 ?_
    (repeat' first | (refine Owe.same ?_; first | refine Owe.o ?_ | refine Owe.mk ?_ ?_) | (refine Fork.same ?_; (first | refine fkY ?_ | refine fkF ?_ | ((first | refine fkD ?_ ?_ | refine fkN ?_ ?_ | refine fkM ?_ ?_) <;> intro h))) | ((first | refine OpsL.same ?_ | refine OpsDL.same ?_); first | refine oK q rfl rfl rfl ?_) | refine MvQ.stay ?_)
    (refine rqK rfl ?_; (repeat' first | exact rfl | (refine qS ?_; constructor)))
  exact key _ _ _ _ _ _ c
theorem bnd_neg {a : Rat} (h : bnd a) : bnd (-a) := by
  refine ⟨?_, h.2⟩
  show (-a.num).natAbs < _
  rw [Int.natAbs_neg]; exact h.1
theorem C148 {a b : Rat} : (bnd a ∧ bnd b) → PFD Tryz.prog 148 [rq a, rq b] (rq (a - b)) := fun ⟨ha, hb⟩ => by
  have c1 := C173 (a := b)
  have c2 := C146 (a := a) (b := -b) ⟨ha, bnd_neg hb⟩
  rw [← Rat.sub_eq_add_neg] at c2
  have key : ∀ (s t s' t' u1 u2 w1 w2 : Int) (a b a' b' d1 d2 e1 e2 : List Int), PFD Tryz.prog 173 [r4 s' a' t' b'] (r4 u1 d1 u2 d2) → PFD Tryz.prog 146 [r4 s a t b, r4 u1 d1 u2 d2] (r4 w1 e1 w2 e2) → PFD Tryz.prog 148 [r4 s a t b, r4 s' a' t' b'] (r4 w1 e1 w2 e2) := fun s t s' t' u1 u2 w1 w2 a b a' b' d1 d2 e1 e2 q1 q2 => by
    refine pi1 fn148 ?_
    (repeat' first | (refine Owe.same ?_; first | refine Owe.o ?_ | refine Owe.mk ?_ ?_) | (refine Fork.same ?_; (first | refine fkY ?_ | refine fkF ?_ | ((first | refine fkD ?_ ?_ | refine fkN ?_ ?_ | refine fkM ?_ ?_) <;> intro h))) | ((first | refine OpsL.same ?_ | refine OpsDL.same ?_); first | refine oK q1 rfl rfl rfl ?_ | refine oK q2 rfl rfl rfl ?_) | refine MvQ.stay ?_)
    (refine rqK rfl ?_; (repeat' first | exact rfl | (refine qS ?_; constructor)))
  exact key _ _ _ _ _ _ _ _ _ _ _ _ _ _ _ _ c1 c2
theorem fl141 {a : Rat} (x : Int) (hx : x.natAbs < 1000000000 ^ 20) (ha : bnd a) : PFD Tryz.prog 141 [wd x, wd (a.den : Int)] (wd (x / a.den)) := C141 ⟨by have := dgs_le hx; simp only [fewI]; omega, by have := dgs_le ha.2; rw [fewI, Int.natAbs_natCast]; omega, by have := a.den_pos; omega⟩
theorem C102 {a : Rat} : bnd a → PFD Tryz.prog 102 [rq a] (wd (a.num / a.den)) := fun ha => by
  have c := fl141 a.num ha.1 ha
  have key : ∀ (s t s' : Int) (a b a' : List Int), PFD Tryz.prog 141 [wv s a, wv t b] (wv s' a') → PFD Tryz.prog 102 [r4 s a t b] (wv s' a') := fun s t s' a b a' q => by
    refine pi1 fn102 ?_
    (repeat' first | (refine Owe.same ?_; first | refine Owe.o ?_ | refine Owe.mk ?_ ?_) | (refine Fork.same ?_; (first | refine fkY ?_ | refine fkF ?_ | ((first | refine fkD ?_ ?_ | refine fkN ?_ ?_ | refine fkM ?_ ?_) <;> intro h))) | ((first | refine OpsL.same ?_ | refine OpsDL.same ?_); first | refine oK q rfl rfl rfl ?_) | refine MvQ.stay ?_)
    (refine rqK rfl ?_; (repeat' first | exact rfl | (refine qS ?_; constructor)))
  exact key _ _ _ _ _ _ c
theorem C104 {a : Rat} : bnd a → PFD Tryz.prog 104 [rq a] (wd (-(-a.num / a.den))) := fun ha => by
  have c0 := C149 (z := a.num)
  have c := fl141 (-a.num) (by rw [Int.natAbs_neg]; exact ha.1) ha
  have c2 := C149 (z := -a.num / a.den)
  have key : ∀ (s t s' u v : Int) (a b a' d e : List Int), PFD Tryz.prog 149 [wv s a] (wv s' a') → PFD Tryz.prog 141 [wv s' a', wv t b] (wv u d) → PFD Tryz.prog 149 [wv u d] (wv v e) → PFD Tryz.prog 104 [r4 s a t b] (wv v e) := fun s t s' u v a b a' d e q1 q2 q3 => by
    refine pi1 fn104 ?_
    (repeat' first | (refine Owe.same ?_; first | refine Owe.o ?_ | refine Owe.mk ?_ ?_) | (refine Fork.same ?_; (first | refine fkD ?_ ?_ | refine fkN ?_ ?_ | refine fkM ?_ ?_) <;> intro h) | refine MvQ.stay ?_)
    ((first | refine OpsL.same ?_ | refine OpsDL.same ?_); first | refine pK q1 rfl rfl ?_)
    (repeat' first | (refine Owe.same ?_; first | refine Owe.o ?_ | refine Owe.mk ?_ ?_) | (refine Fork.same ?_; (first | refine fkY ?_ | refine fkF ?_ | ((first | refine fkD ?_ ?_ | refine fkN ?_ ?_ | refine fkM ?_ ?_) <;> intro h))) | ((first | refine OpsL.same ?_ | refine OpsDL.same ?_); first | refine oK q2 rfl rfl rfl ?_) | refine MvQ.stay ?_)
    ((first | refine OpsL.same ?_ | refine OpsDL.same ?_); first | refine pK q3 rfl rfl ?_)
    (repeat' first | (refine Owe.same ?_; first | refine Owe.o ?_ | refine Owe.mk ?_ ?_) | (refine Fork.same ?_; (first | refine fkD ?_ ?_ | refine fkN ?_ ?_ | refine fkM ?_ ?_) <;> intro h) | refine MvQ.stay ?_)
    (refine rqK rfl ?_; (repeat' first | exact rfl | (refine qS ?_; constructor)))
  exact key _ _ _ _ _ _ _ _ _ _ c0 c c2
theorem C101 {z : Int} : z.natAbs < 1000000000000000000 → PFD Tryz.prog 101 [wd z] (.tup [vi .i64 z, vbl true]) := fun hz => by
  have hl := dgs_le (k := 2) hz
  obtain ⟨ho, hv⟩ := dgs_ok z.natAbs
  have hs := sg_val z
  have hs3 := sgn3 z
  have key : ∀ (s : Int) (a : List Int), a.length ≤ 2 → dOk a → (s = 1 ∨ s = -1 ∨ s = 0) → valD a < 1000000000000000000 → PFD Tryz.prog 101 [wv s a] (.tup [vi .i64 (s * valD a), vbl true]) := fun s a hl ho hs hv => by
    refine pi2 fn101 ?_
    (repeat' first | (refine Owe.same ?_; first | refine Owe.o ?_ | refine Owe.mk ?_ ?_) | (refine Fork.same ?_; (first | refine fkY ?_ | refine fkF ?_ | ((first | refine fkD ?_ ?_ | refine fkN ?_ ?_ | refine fkM ?_ ?_) <;> intro h))) | ((first | refine OpsL.same ?_ | refine OpsDL.same ?_); first | refine oK C163 rfl rfl rfl ?_) | refine MvQ.stay ?_)
    refine Sat.lp0 (fun i : Nat => [(5, vi .i64 ((i : Int) - 1)), (4, vi .i64 (valD (a.drop i))), (1, .c (.rp [dI s, .sl 1 a.length fun i => r1 (a.getD i 0)]))]) (fun i => i ≤ a.length) (fun i => i) a.length (Nat.le_refl _) ?_ ?_
    · rw [List.drop_of_length_le (Nat.le_refl _)]; ((first | refine qen ?_ | refine qvs ?_ | refine qeq ?_ | refine qst ?_ | refine qv ?_ | refine qc ?_ | refine qe ?_ | refine qcs ?_ | skip); (repeat' first | exact rfl | (refine qS ?_; constructor)))
    intro i hi
    refine Fork.dec (fun hge => ?_) (fun hlt => ?_)
    · obtain ⟨j, rfl⟩ : ∃ j, i = j + 1 := ⟨i - 1, by omega⟩
      have e1 : ((j + 1 : Nat) : Int) - 1 = j := by omega
      rw [e1]
      have gj := ho j (by omega)
      have hd := valD_drop (l := a) (k := j) (by omega)
      have hn := valD_nn (dOk_drop (k := j + 1) ho)
      have hlt := valD_lt (dOk_drop (k := j + 1) ho)
      rw [List.length_drop] at hlt
      have hle : (1000000000 : Int) ^ (a.length - (j + 1)) ≤ 1000000000 := by
        rcases (show a.length - (j + 1) = 0 ∨ a.length - (j + 1) = 1 by omega) with h | h <;> rw [h] <;> decide
      (repeat' first | (refine Owe.same ?_; first | refine Owe.o ?_ | refine Owe.mk ?_ ?_) | (refine Fork.same ?_; (first | refine fkY ?_ | refine fkF ?_ | ((first | refine fkD ?_ ?_ | refine fkN ?_ ?_ | refine fkM ?_ ?_) <;> intro h))) | ((first | refine OpsL.same ?_ | refine OpsDL.same ?_); first | refine oK C163 rfl rfl rfl ?_) | refine MvQ.stay ?_)
      refine again0 j (by omega) (by omega) ?_
      rw [hd, show a.getD j 0 + 1000000000 * valD (a.drop (j + 1)) = valD (a.drop (j + 1)) * 1000000000 + a.getD j 0 by omega]
      ((first | refine qen ?_ | refine qvs ?_ | refine qeq ?_ | refine qst ?_ | refine qv ?_ | refine qc ?_ | refine qe ?_ | refine qcs ?_ | skip); (repeat' first | exact rfl | (refine qS ?_; constructor)))
    · have : i = 0 := by omega
      subst this
      rw [List.drop_zero]
      have hvn := valD_nn ho
      have hR : R64 (s * valD a) := by simp only [R64]; rcases hs with rfl | rfl | rfl <;> omega
      (repeat' first | (refine Owe.same ?_; first | refine Owe.o ?_ | refine Owe.mk ?_ ?_) | (refine Fork.same ?_; (first | refine fkY ?_ | refine fkF ?_ | ((first | refine fkD ?_ ?_ | refine fkN ?_ ?_ | refine fkM ?_ ?_) <;> intro h))) | ((first | refine OpsL.same ?_ | refine OpsDL.same ?_); first | refine oK C163 rfl rfl rfl ?_) | refine MvQ.stay ?_)
      (refine rqK rfl ?_; (repeat' first | exact rfl | (refine qS ?_; constructor)))
  have := key _ _ hl ho hs3 (by rw [hv]; omega)
  rw [hs] at this
  exact this
end Go.Pw

set_option linter.unusedSimpArgs false
set_option linter.unusedVariables false
namespace Go.Pw
theorem ratN {n : Int} (h : 0 ≤ n) : ((n.toNat : Nat) : Rat) = (n : Rat) := by
  have e : ((n.toNat : Nat) : Int) = n := Int.toNat_of_nonneg h
  rw [← Rat.intCast_natCast, e]
abbrev qV (q : Qt) : Rat := (q.1 : Rat) / (q.2 : Rat)
theorem qV_mul {q : Qt} (h : 0 < q.2) : qV q * q.2 = q.1 := Rat.div_mul_cancel (by have : (0 : Rat) < (q.2 : Nat) := by exact_mod_cast h
                                                                                   grind)
theorem plusQ_x {q o : Qt} (hq : 0 < q.2) (ho : 0 < o.2) : (plusQ q o).1 * (q.2 * o.2) = (q.1 * o.2 + o.1 * q.2) * (plusQ q o).2 := by
  rw [plusQ]
  have g0 : 0 < Nat.gcd q.2 o.2 := Nat.gcd_pos_of_pos_left _ hq
  have e1 : Nat.gcd q.2 o.2 * (q.2 / Nat.gcd q.2 o.2) = q.2 := Nat.mul_div_cancel' (Nat.gcd_dvd_left _ _)
  have e2 : Nat.gcd q.2 o.2 * (o.2 / Nat.gcd q.2 o.2) = o.2 := Nat.mul_div_cancel' (Nat.gcd_dvd_right _ _)
  have y0 : 0 < q.2 / Nat.gcd q.2 o.2 := Nat.div_pos (Nat.le_of_dvd hq (Nat.gcd_dvd_left _ _)) g0
  generalize q.2 / Nat.gcd q.2 o.2 = y at *
  generalize o.2 / Nat.gcd q.2 o.2 = x at *
  generalize Nat.gcd q.2 o.2 = g at *
  have h0 : 0 < Nat.gcd (q.1 * x + o.1 * y) (y * o.2) := Nat.gcd_pos_of_pos_right _ (Nat.mul_pos y0 ho)
  have e3 : Nat.gcd (q.1 * x + o.1 * y) (y * o.2) * ((q.1 * x + o.1 * y) / Nat.gcd (q.1 * x + o.1 * y) (y * o.2)) = q.1 * x + o.1 * y := Nat.mul_div_cancel' (Nat.gcd_dvd_left _ _)
  have e4 : Nat.gcd (q.1 * x + o.1 * y) (y * o.2) * (y * o.2 / Nat.gcd (q.1 * x + o.1 * y) (y * o.2)) = y * o.2 := Nat.mul_div_cancel' (Nat.gcd_dvd_right _ _)
  generalize (q.1 * x + o.1 * y) / Nat.gcd (q.1 * x + o.1 * y) (y * o.2) = n at *
  generalize y * o.2 / Nat.gcd (q.1 * x + o.1 * y) (y * o.2) = d at *
  generalize Nat.gcd (q.1 * x + o.1 * y) (y * o.2) = h at *
  refine Nat.eq_of_mul_eq_mul_left h0 ?_
  calc h * (n * (q.2 * o.2)) = (h * n) * (q.2 * o.2) := by rw [Nat.mul_assoc]
    _ = (q.1 * x + o.1 * y) * ((g * y) * o.2) := by rw [e3, e1]
    _ = (q.1 * (g * x) + o.1 * (g * y)) * (y * o.2) := by grind
    _ = (q.1 * o.2 + o.1 * q.2) * (h * d) := by rw [e2, e1, e4]
    _ = h * ((q.1 * o.2 + o.1 * q.2) * d) := by rw [Nat.mul_left_comm]
theorem nR {n : Nat} (h : 0 < n) : (0 : Rat) < n := by exact_mod_cast h
theorem plusQ_v {q o : Qt} (hq : 0 < q.2) (ho : 0 < o.2) : qV (plusQ q o) = qV q + qV o := by
  have hp := plusQ_pos hq ho
  have e : (((plusQ q o).1 * (q.2 * o.2) : Nat) : Rat) = (((q.1 * o.2 + o.1 * q.2) * (plusQ q o).2 : Nat) : Rat) := by rw [plusQ_x hq ho]
  have a1 := qV_mul hq
  have a2 := qV_mul ho
  have a3 := qV_mul hp
  have b1 := nR hq
  have b2 := nR ho
  have b3 := nR hp
  simp only [Rat.natCast_mul, Rat.natCast_add] at e
  generalize qV (plusQ q o) = P at *
  generalize qV q = Q at *
  generalize qV o = O at *
  rw [← a1, ← a2, ← a3] at e
  have hne : (q.2 : Rat) * o.2 * (plusQ q o).2 ≠ 0 := by
    have := Rat.mul_pos (Rat.mul_pos b1 b2) b3
    grind
  have e5 : (P - (Q + O)) * ((q.2 : Rat) * o.2 * (plusQ q o).2) = 0 := by grind
  rcases Rat.mul_eq_zero.1 e5 with h | h
  · grind
  · exact absurd h hne
abbrev Ts := List (Int × Int)
def DQ : Ts → Rat → Rat
  | [], _ => 0
  | x :: r, t => if r = [] ∨ t * (x.2 : Rat) < (x.1 : Rat) then t * x.2 else x.1 + DQ r (t - x.1 / x.2)
/-- Layers in range, with positive speeds. -/
abbrev okV (l : Ts) : Prop := ∀ x ∈ l, 1 ≤ x.1 ∧ 1 ≤ x.2
theorem okV.tl {x : Int × Int} {l : Ts} (h : okV (x :: l)) : okV l := fun y hy => h y (.tail _ hy)
theorem iR {n : Int} (h : 1 ≤ n) : (0 : Rat) < n := by
  have : (0 : Int) < n := by omega
  exact_mod_cast this
theorem q_le {a b v : Rat} (hv : 0 < v) : a / v ≤ b ↔ a ≤ b * v := by
  have e : a / v * v = a := Rat.div_mul_cancel (by grind)
  constructor
  · intro h; have := Rat.mul_le_mul_of_nonneg_right h (Rat.le_of_lt hv); rwa [e] at this
  · intro h; exact Rat.le_of_mul_le_mul_right (by rwa [e]) hv
def LQ : Ts → Rat → Rat
  | [], _ => 0
  | x :: r, d => if r = [] ∨ d ≤ (x.1 : Rat) then d / x.2 else x.1 / x.2 + LQ r (d - x.1)
theorem div_nn {a v : Rat} (ha : 0 ≤ a) (hv : 0 < v) : 0 ≤ a / v := by
  have e : a / v * v = a := Rat.div_mul_cancel (by grind)
  refine Rat.not_lt.1 fun h => ?_
  have := Rat.mul_lt_mul_of_pos_right h hv
  grind
theorem natsub {a b : Nat} (h : b ≤ a) : ((a - b : Nat) : Rat) = (a : Rat) - b := by
  have : ((a - b + b : Nat) : Rat) = (a : Rat) := by rw [Nat.sub_add_cancel h]
  rw [Rat.natCast_add] at this
  grind
theorem qV_eq {a b : Nat} {r : Rat} (hb : 0 < b) (h : (a : Rat) = r * b) : qV (a, b) = r := by
  have e := qV_mul (q := (a, b)) hb
  have b1 := nR hb
  have : (qV (a, b) - r) * (b : Rat) = 0 := by grind
  rcases Rat.mul_eq_zero.1 this with h | h
  · grind
  · grind
theorem lyQ_v {t v : Int} (ht : 0 ≤ t) (hv : 1 ≤ v) : qV (lyQ t v) = (t : Rat) / v := by
  rw [lyQ, qV, ratN ht, ratN (by omega)]
/-- Layers with chosen speeds. -/
abbrev tsL (v : Dv → Int) (l : List Dv) : Ts := l.map fun x => (x.1, v x)
theorem deepS_v {v : Dv → Int} {T : Nat} : ∀ {l : List Dv} {p : Qt} {top : Nat}, okV (tsL v l) → l ≠ [] → 0 < p.2 → p.1 ≤ T * p.2 → qV (deepS v T l p top) = top + DQ (tsL v l) (T - qV p)
  | [], _, _, _, h, _, _ => absurd rfl h
  | x :: r, p, top, h, _, hp, hT => by
    have hx : 1 ≤ x.1 ∧ 1 ≤ v x := h (x.1, v x) (.head _)
    have h1 := iR hx.1
    have h2 := iR hx.2
    have ho : 0 < (lyQ x.1 (v x)).2 := by simp only [lyQ]; omega
    have hv := plusQ_v (o := lyQ x.1 (v x)) hp ho
    have hP := plusQ_pos (o := lyQ x.1 (v x)) hp ho
    rw [lyQ_v (by omega) hx.2] at hv
    have hq := qV_mul hp
    have hpp := nR hp
    have hc : T * (plusQ p (lyQ x.1 (v x))).2 < (plusQ p (lyQ x.1 (v x))).1 ↔ ((T : Rat) - qV p) * v x < x.1 := by
      have e1 := qV_mul hP
      have e2 := nR hP
      have e3 : (x.1 : Rat) / v x * v x = x.1 := Rat.div_mul_cancel (by grind)
      constructor
      · intro hh
        have hh : ((T * (plusQ p (lyQ x.1 (v x))).2 : Nat) : Rat) < ((plusQ p (lyQ x.1 (v x))).1 : Rat) := by exact_mod_cast hh
        rw [Rat.natCast_mul, ← e1] at hh
        have h5 : (T : Rat) < qV (plusQ p (lyQ x.1 (v x))) := Rat.lt_of_mul_lt_mul_right hh (Rat.le_of_lt e2)
        have h6 : (T : Rat) - qV p < x.1 / v x := by grind
        have := Rat.mul_lt_mul_of_pos_right h6 h2
        rwa [e3] at this
      · intro hh
        rw [← e3] at hh
        have h6 : (T : Rat) - qV p < x.1 / v x := Rat.lt_of_mul_lt_mul_right hh (Rat.le_of_lt h2)
        have h5 : (T : Rat) < qV (plusQ p (lyQ x.1 (v x))) := by grind
        have := Rat.mul_lt_mul_of_pos_right h5 e2
        rw [e1] at this
        exact_mod_cast this
    have hm : tsL v r = [] ↔ r = [] := List.map_eq_nil_iff
    rw [deepS, tsL, List.map_cons, DQ]
    simp only [hm]
    by_cases hr : r = [] ∨ T * (plusQ p (lyQ x.1 (v x))).2 < (plusQ p (lyQ x.1 (v x))).1
    · rw [if_pos hr, if_pos (hr.imp_right hc.1)]
      refine qV_eq hp ?_
      rw [Rat.natCast_add, Rat.natCast_mul, Rat.natCast_mul, natsub hT, Rat.natCast_mul, ratN (by omega)]
      grind
    · rw [if_neg hr, if_neg (fun hh => hr (hh.imp_right hc.2))]
      have hr1 : r ≠ [] := fun h => hr (.inl h)
      rw [deepS_v (l := r) h.tl hr1 hP (Nat.le_of_not_lt fun h => hr (.inr h)), hv, Rat.natCast_add, ratN (by omega)]
      have : (T : Rat) - (qV p + x.1 / v x) = T - qV p - x.1 / v x := by grind
      rw [this]; grind
theorem lateS_v {v : Dv → Int} : ∀ {l : List Dv} {d : Int} {q : Qt}, okV (tsL v l) → l ≠ [] → 0 < q.2 → 0 ≤ d → qV (lateS v l d q) = qV q + LQ (tsL v l) d
  | [], _, _, _, h, _, _ => absurd rfl h
  | x :: r, d, q, h, _, hq, hd => by
    have hx : 1 ≤ x.1 ∧ 1 ≤ v x := h (x.1, v x) (.head _)
    have h1 := iR hx.1
    have h2 := iR hx.2
    have key : ∀ a : Int, 0 ≤ a → qV (plusQ q (lyQ a (v x))) = qV q + (a : Rat) / v x := fun a ha => by
      rw [plusQ_v hq (by simp only [lyQ]; omega), lyQ_v ha hx.2]
    have kp : ∀ a : Int, 0 < (plusQ q (lyQ a (v x))).2 := fun a => plusQ_pos hq (by simp only [lyQ]; omega)
    have kz : ∀ (l : List Dv) (q : Qt), okV (tsL v l) → 0 < q.2 → qV (lateS v l 0 q) = qV q := by
      intro l
      induction l with
      | nil => intro q _ _; rfl
      | cons y l ih =>
        intro q hk hq
        have hy : 1 ≤ y.1 ∧ 1 ≤ v y := hk (y.1, v y) (.head _)
        have e : latePart (l = []) y.1 0 = 0 := by rw [latePart]; split <;> omega
        rw [lateS, e, Int.sub_zero, ih _ hk.tl (plusQ_pos hq (by simp only [lyQ]; omega)), plusQ_v hq (by simp only [lyQ]; omega), lyQ_v (by omega) hy.2]
        grind
    have hm : tsL v r = [] ↔ r = [] := List.map_eq_nil_iff
    rw [lateS, tsL, List.map_cons, LQ]
    simp only [hm]
    by_cases hr : r = []
    · have e : latePart (r = []) x.1 d = d := by rw [latePart, if_pos hr]; omega
      rw [e, if_pos (.inl hr), Int.sub_self, kz r _ h.tl (kp d), key d hd]
    · by_cases c : d ≤ x.1
      · have e : latePart (r = []) x.1 d = d := by rw [latePart, if_neg hr]; omega
        have c' : (d : Rat) ≤ x.1 := by exact_mod_cast c
        rw [e, if_pos (.inr c'), Int.sub_self, kz r _ h.tl (kp d), key d hd]
      · have e : latePart (r = []) x.1 d = x.1 := by rw [latePart, if_neg hr]; omega
        have c' : ¬ (d : Rat) ≤ x.1 := fun hh => c (by exact_mod_cast hh)
        rw [e, if_neg (by simp only [hr, c']; decide), lateS_v (l := r) h.tl hr (kp _) (by omega), key _ (by omega), Rat.intCast_sub]
        grind
end Go.Pw

set_option linter.unusedSimpArgs false
set_option linter.unusedVariables false
namespace Go.Pw
set_option maxRecDepth 2000
open Go Go.Proofs A1 A2 A3 A4
theorem lysE_e {l : List Dv} {k : Nat} (h0 : cntE l.length 6 = 0) (h : ∀ i, i < k → lyE (l.getD i (0, 0, 0)) = 0) (hk : k < l.length) (hx : ¬ lyE (l.getD k (0, 0, 0)) = 0) : lysE l = ((k : Int), lyE (l.getD k (0, 0, 0))) := by
  have : ∀ j, j ≤ k → eachE lyE 0 l = eachE lyE j (l.drop j) := fun j => by
    induction j with
    | zero => intro _; simp
    | succ j ih => intro hj; rw [ih (by omega), eachE_drop _ (0, 0, 0) l j (by omega), if_pos (h j (by omega))]
  rw [lysE, if_pos h0, this k (Nat.le_refl _), eachE_drop _ (0, 0, 0) l k hk, if_neg hx]
theorem lysE_z {l : List Dv} (h0 : cntE l.length 6 = 0) (h : ∀ i, i < l.length → lyE (l.getD i (0, 0, 0)) = 0) : lysE l = (0, 0) := by
  have h1 : (lysE l).2 = 0 := by
    rw [lysE, if_pos h0]
    refine eachE_ok.2 fun x hx => ?_
    obtain ⟨i, hi, rfl⟩ := List.getElem_of_mem hx
    have := h i hi
    rwa [List.getD_eq_getElem?_getD, List.getElem?_eq_getElem hi] at this
  have h2 : (lysE l).1 = 0 := by
    rw [lysE, if_pos h0] at h1 ⊢
    exact eachE_fst h1
  exact Prod.ext h2 h1
theorem C39 {l : List Dv} : PFD Tryz.prog 39 [.c (trs l)] (.tup [vi .i64 (lysE l).1, vi .i64 (lysE l).2]) := by
  by_cases h0 : l.length = 0
  · have e : lysE l = (0, 10) := by
      have : l = [] := List.length_eq_zero_iff.1 h0
      subst this; rfl
    rw [e]
    refine pi2 fn39 ?_
    (repeat' first | (refine Owe.same ?_; first | refine Owe.o ?_ | refine Owe.mk ?_ ?_) | (refine Fork.same ?_; (first | refine fkY ?_ | refine fkF ?_ | ((first | refine fkD ?_ ?_ | refine fkN ?_ ?_ | refine fkM ?_ ?_) <;> intro h))) | ((first | refine OpsL.same ?_ | refine OpsDL.same ?_); first | refine pK C14 rfl rfl ?_) | refine MvQ.stay ?_)
    (refine rqK rfl ?_; (repeat' first | exact rfl | (refine qS ?_; constructor)))
  · by_cases h1 : l.length ≤ 6
    · have hc : cntE l.length 6 = 0 := by rw [cntE, fst2, unl0 (by decide), unl0 (by decide)]; omega
      obtain ⟨q, hq⟩ : ∃ q, q = lysE l := ⟨_, rfl⟩
      rw [← hq]
      refine pi2 fn39 ?_
      (repeat' first | (refine Owe.same ?_; first | refine Owe.o ?_ | refine Owe.mk ?_ ?_) | (refine Fork.same ?_; (first | refine fkY ?_ | refine fkF ?_ | ((first | refine fkD ?_ ?_ | refine fkN ?_ ?_ | refine fkM ?_ ?_) <;> intro h))) | ((first | refine OpsL.same ?_ | refine OpsDL.same ?_); first | refine pK C14 rfl rfl ?_) | refine MvQ.stay ?_)
      refine Sat.lp0 (fun k : Nat => [(4, vi .i64 k), (0, .c (trs l))]) (fun k => k ≤ l.length ∧ ∀ i, i < k → lyE (l.getD i (0, 0, 0)) = 0) (fun k => l.length - k) 0 ⟨Nat.zero_le _, fun i hi => by omega⟩ (by ((first | refine qen ?_ | refine qvs ?_ | refine qeq ?_ | refine qst ?_ | refine qv ?_ | refine qc ?_ | refine qe ?_ | refine qcs ?_ | skip); (repeat' first | exact rfl | (refine qS ?_; constructor)))) ?_
      intro k hk
      refine Fork.dec (fun hlt => ?_) (fun hlt => ?_)
      · have hlt : k < l.length := by omega
        obtain ⟨x, hx⟩ : ∃ x, x = l.getD k (0, 0, 0) := ⟨_, rfl⟩
        have e2 : ¬ lyOk x → q = ((k : Int), 2) := fun h => by
          have : lyE x = 2 := by rw [lyE, fst_c (by rw [unl, decide_eq_false h]; decide), unl, decide_eq_false h]; rfl
          rw [hq, lysE_e hc hk.2 hlt (by rw [← hx, this]; decide), ← hx, this]
        have e9 : lyOk x → ¬ x.2.1 ≤ x.2.2 → q = ((k : Int), 9) := fun h h' => by
          have : lyE x = 9 := by rw [lyE, show unl (lyOk x) 2 = 0 from (unl0 (by decide)).2 h, fst_z, fst_c (by rw [unl, decide_eq_false h']; decide), unl, decide_eq_false h']; rfl
          rw [hq, lysE_e hc hk.2 hlt (by rw [← hx, this]; decide), ← hx, this]
        rw [hx] at e2 e9
        (repeat' first | (refine Owe.same ?_; first | refine Owe.o ?_ | refine Owe.mk ?_ ?_) | (refine Fork.same ?_; (first | refine fkD ?_ ?_ | refine fkN ?_ ?_ | refine fkM ?_ ?_) <;> intro h) | ((first | refine OpsL.same ?_ | refine OpsDL.same ?_); first | refine pK C14 rfl rfl ?_) | refine MvQ.stay ?_)
        · rw [e2 fun hh => h hh.1]
          (refine rqK rfl ?_; (repeat' first | exact rfl | (refine qS ?_; constructor)))
        · rw [e2 fun hh => h hh.2.1]
          (refine rqK rfl ?_; (repeat' first | exact rfl | (refine qS ?_; constructor)))
        · rw [e2 fun hh => h hh.2.2]
          (refine rqK rfl ?_; (repeat' first | exact rfl | (refine qS ?_; constructor)))
        · rename_i h3 h4 h5
          rw [e9 ⟨h3, h4, h5⟩ (Int.not_le.2 h)]
          (refine rqK rfl ?_; (repeat' first | exact rfl | (refine qS ?_; constructor)))
        · rename_i h3 h4 h5
          refine again0 (k + 1) ⟨hlt, fun i hi => ?_⟩ (by omega) (by ((first | refine qen ?_ | refine qvs ?_ | refine qeq ?_ | refine qst ?_ | refine qv ?_ | refine qc ?_ | refine qe ?_ | refine qcs ?_ | skip); (repeat' first | exact rfl | (refine qS ?_; constructor))))
          rcases Nat.lt_succ_iff_lt_or_eq.1 hi with h9 | rfl
          · exact hk.2 i h9
          · exact lyE_ok.2 ⟨⟨h3, h4, h5⟩, Int.not_lt.1 h⟩
      · have : q = (0, 0) := hq.trans (lysE_z hc fun i hi => hk.2 i (by omega))
        subst this
        (repeat' first | (refine Owe.same ?_; first | refine Owe.o ?_ | refine Owe.mk ?_ ?_) | (refine Fork.same ?_; (first | refine fkY ?_ | refine fkF ?_ | ((first | refine fkD ?_ ?_ | refine fkN ?_ ?_ | refine fkM ?_ ?_) <;> intro h))) | ((first | refine OpsL.same ?_ | refine OpsDL.same ?_); first | refine pK C14 rfl rfl ?_) | refine MvQ.stay ?_)
        (refine rqK rfl ?_; (repeat' first | exact rfl | (refine qS ?_; constructor)))
    · have e : lysE l = (0, 8) := by
        rw [lysE]
        have h2 : cntE l.length 6 = 8 := by
          rw [cntE, fstE, if_pos ((unl0 (by decide)).2 (by omega)), fstE, unl, decide_eq_false (by omega)]; rfl
        rw [h2]; rfl
      rw [e]
      refine pi2 fn39 ?_
      (repeat' first | (refine Owe.same ?_; first | refine Owe.o ?_ | refine Owe.mk ?_ ?_) | (refine Fork.same ?_; (first | refine fkY ?_ | refine fkF ?_ | ((first | refine fkD ?_ ?_ | refine fkN ?_ ?_ | refine fkM ?_ ?_) <;> intro h))) | ((first | refine OpsL.same ?_ | refine OpsDL.same ?_); first | refine pK C14 rfl rfl ?_) | refine MvQ.stay ?_)
      (refine rqK rfl ?_; (repeat' first | exact rfl | (refine qS ?_; constructor)))
end Go.Pw

set_option linter.unusedSimpArgs false
set_option linter.unusedVariables false
set_option maxHeartbeats 1000000
namespace Go.Pw
set_option maxRecDepth 2000
open Go Go.Proofs A1 A2 A3 A4
/-- The chosen speed of a layer. -/
def vF (fast : Bool) (x : Dv) : Int := if fast = true then x.2.2 else x.2.1
theorem C144 {x : Dv} {fast : Bool} : PFD Tryz.prog 144 [tr x, vbl fast] (vi .i64 (vF fast x)) := by
  cases fast with
  | true =>
    show PFD Tryz.prog 144 [tr x, vbl true] (vi .i64 x.2.2)
    refine pi1 fn144 ?_
    (repeat' first | (refine Owe.same ?_; first | refine Owe.o ?_ | refine Owe.mk ?_ ?_) | (refine Fork.same ?_; (first | refine fkY ?_ | refine fkF ?_ | ((first | refine fkD ?_ ?_ | refine fkN ?_ ?_ | refine fkM ?_ ?_) <;> intro h))) | ((first | refine OpsL.same ?_ | refine OpsDL.same ?_); first | refine oK C163 rfl rfl rfl ?_) | refine MvQ.stay ?_)
    (refine rqK rfl ?_; (repeat' first | exact rfl | (refine qS ?_; constructor)))
  | false =>
    show PFD Tryz.prog 144 [tr x, vbl false] (vi .i64 x.2.1)
    refine pi1 fn144 ?_
    (repeat' first | (refine Owe.same ?_; first | refine Owe.o ?_ | refine Owe.mk ?_ ?_) | (refine Fork.same ?_; (first | refine fkY ?_ | refine fkF ?_ | ((first | refine fkD ?_ ?_ | refine fkN ?_ ?_ | refine fkM ?_ ?_) <;> intro h))) | ((first | refine OpsL.same ?_ | refine OpsDL.same ?_); first | refine oK C163 rfl rfl rfl ?_) | refine MvQ.stay ?_)
    (refine rqK rfl ?_; (repeat' first | exact rfl | (refine qS ?_; constructor)))
theorem rq_fn : ∃ (f1 : Rat → Int) (f2 : Rat → List Int) (f3 : Rat → Int) (f4 : Rat → List Int), ∀ q, rq q = r4 (f1 q) (f2 q) (f3 q) (f4 q) :=
  ⟨fun q => q.num.sign, fun q => dgs q.num.natAbs, fun q => ((q.den : Nat) : Int).sign, fun q => dgs ((q.den : Nat) : Int).natAbs, fun q => rfl⟩
theorem mk_div {a : Int} {n : Int} (hn : 1 ≤ n) : mkRat a n.toNat = (a : Rat) / (n : Rat) := by
  rw [Rat.mkRat_eq_div, ratN (by omega)]
theorem LyOk.v {l : List Dv} (h : LyOk l) (fast : Bool) {i : Nat} (hi : i < l.length) : (1 ≤ (l.getD i (0, 0, 0)).1 ∧ (l.getD i (0, 0, 0)).1 ≤ 10000) ∧ 1 ≤ vF fast (l.getD i (0, 0, 0)) ∧ vF fast (l.getD i (0, 0, 0)) ≤ 100 := by
  obtain ⟨⟨h1, h2, h3⟩, h4⟩ := h.ok i hi
  cases fast with
  | true => exact ⟨h1, h3⟩
  | false => exact ⟨h1, h2⟩
theorem LyOk.okv {l : List Dv} (h : LyOk l) (fast : Bool) : okV (tsL (vF fast) l) := fun x hx => by
  obtain ⟨y, hy, rfl⟩ := List.mem_map.1 hx
  obtain ⟨i, hi, rfl⟩ := List.getElem_of_mem hy
  have := h.v fast hi
  rw [List.getD_eq_getElem?_getD, List.getElem?_eq_getElem hi] at this
  exact ⟨this.1.1, this.2.1⟩
theorem tsL_drop {l : List Dv} {v : Dv → Int} {i : Nat} (hi : i < l.length) : (tsL v l).drop i = ((l.getD i (0, 0, 0)).1, v (l.getD i (0, 0, 0))) :: (tsL v l).drop (i + 1) := by
  rw [List.drop_eq_getElem_cons (by simpa using hi), List.getD_eq_getElem?_getD, List.getElem?_eq_getElem hi]
  simp
theorem okV_drop {l : Ts} (h : okV l) (i : Nat) : okV (l.drop i) := fun x hx => h x (List.mem_of_mem_drop hx)
theorem DQ_0' : ∀ {l : Ts}, okV l → DQ l 0 = 0
  | [], _ => rfl
  | x :: r, h => by
    have hx := h x (.head _)
    have h1 := iR hx.1
    rw [DQ, if_pos (.inr (by rw [Rat.zero_mul]; exact h1)), Rat.zero_mul]
theorem num_le {q : Rat} {n : Int} (h : q ≤ (n : Rat)) : q.num ≤ n * q.den := by
  have := (Rat.le_iff q (n : Rat)).1 h
  rwa [Rat.num_intCast, Rat.den_intCast, Int.natCast_one, Int.mul_one] at this
theorem num_ge {q : Rat} (h : 0 ≤ q) : 0 ≤ q.num := Rat.num_nonneg.2 h
theorem den_add {a b : Rat} : (a + b).den ≤ a.den * b.den := by
  rw [Rat.add_def']; exact (mk_bd (Nat.mul_pos a.den_pos b.den_pos)).2
theorem den_sub {a b : Rat} : (a - b).den ≤ a.den * b.den := by
  have := den_add (a := a) (b := -b)
  rwa [← Rat.sub_eq_add_neg] at this
theorem den_mul {a b : Rat} : (a * b).den ≤ a.den * b.den := by
  rw [Rat.mul_def']; exact (mk_bd (Nat.mul_pos a.den_pos b.den_pos)).2
/-- Numbers from 0 on, not too great, with small denominators. -/
theorem bnd_of {q : Rat} {n : Int} {d : Nat} (h0 : 0 ≤ q) (h1 : q ≤ (n : Rat)) (hn : 0 ≤ n ∧ n ≤ 1000000000) (hd : q.den ≤ d) (hdd : d ≤ 1000000000000) : bnd q := by
  have e1 := num_le h1
  have e2 := num_ge h0
  have e3 : n * (q.den : Int) ≤ 1000000000 * 1000000000000 := Int.mul_le_mul (by omega) (by omega) (by omega) (by decide)
  exact ⟨by omega, by omega⟩
theorem bnd_int {n : Int} (hn : 0 ≤ n ∧ n ≤ 1000000000) : bnd (n : Rat) := ⟨by rw [Rat.num_intCast]; omega, by rw [Rat.den_intCast]; decide⟩
theorem pow100 {i : Nat} (h : i ≤ 6) : 100 ^ i ≤ 1000000000000 := by
  have := Nat.pow_le_pow_right (show 0 < 100 by decide) h
  simpa using this
theorem C103 {l : List Dv} {T : Int} {fast : Bool} : (LyOk l ∧ 0 ≤ T ∧ T ≤ 100000) → PFD Tryz.prog 103 [.c (trs l), vi .i64 T, vbl fast] (rq (DQ (tsL (vF fast) l) (T : Rat))) := fun ⟨hO, hT⟩ => by
  have hn := hO.n
  have hok := hO.okv fast
  have hv := fun i hi => hO.v fast (i := i) hi
  have cv := fun x : Dv => C144 (x := x) (fast := fast)
  obtain ⟨f1, f2, f3, f4, hF⟩ := rq_fn
  obtain ⟨q, hq⟩ : ∃ q, q = DQ (tsL (vF fast) l) (T : Rat) := ⟨_, rfl⟩
  rw [← hq, hF]
  have c142T := C142 (n := T) (by omega)
  have c142z := C142 (n := 0) (by decide)
  rw [hF] at c142T c142z
  have hz : (0 : Rat) = ((0 : Int) : Rat) := rfl
  refine pi1 fn103 ?_
  (repeat' first | (refine Owe.same ?_; first | refine Owe.o ?_ | refine Owe.mk ?_ ?_) | (refine Fork.same ?_; (first | refine fkY ?_ | refine fkF ?_ | ((first | refine fkD ?_ ?_ | refine fkN ?_ ?_ | refine fkM ?_ ?_) <;> intro h))) | ((first | refine OpsL.same ?_ | refine OpsDL.same ?_); first | refine oK c142T rfl rfl rfl ?_ | refine oK c142z rfl rfl rfl ?_) | refine MvQ.stay ?_)
  refine Sat.lp (fun (i, left, s) => ⟨[(9, vi .i64 (i : Nat)), (0, .c (trs l)), (2, vbl fast), (6, .c (.bp 0 0)), (7, .c (.bp 1 0)), (8, .c (.bp 2 0))], [(0, .box [int 0, .d (.v (.slice none 0 0)), int 0, .d (.v (.slice none 0 0))]), (1, .box [int (f1 left), ints (f2 left), int (f3 left), ints (f4 left)]), (2, .box [int (f1 ((s : Int) : Rat)), ints (f2 (s : Rat)), int (f3 (s : Rat)), ints (f4 (s : Rat))])], 3⟩)
    (fun ((i, left, s) : Nat × Rat × Int) => (i < l.length ∧ 0 ≤ s ∧ s ≤ 10000 * i) ∧ (0 ≤ left ∧ left ≤ ((100000 : Int) : Rat) ∧ left.den ≤ 100 ^ i) ∧ q = (s : Rat) + DQ ((tsL (vF fast) l).drop i) left) (fun (i, _, _) => l.length - i) (0, (T : Rat), 0) [0, 1, 2] ⟨⟨hn.1, by decide, by decide⟩, ⟨Rat.intCast_le_intCast.2 hT.1, Rat.intCast_le_intCast.2 hT.2, by rw [Rat.den_intCast]; decide⟩, by rw [hq, List.drop_zero, ← hz, Rat.zero_add]⟩ ?_ ?_
  · (refine qis ?_ ?_ <;> (repeat' first | exact rfl | (refine qS ?_; constructor)))
  rintro ⟨i, left, s⟩ ⟨⟨hi, hs⟩, ⟨hl0, hl1, hld⟩, hqq⟩
  obtain ⟨hth, hvv⟩ := hv i hi
  have cvi := cv (l.getD i (0, 0, 0))
  have hp6 := pow100 (show i ≤ 6 by omega)
  have hbl : bnd left := bnd_of hl0 hl1 (by decide) hld hp6
  have hbs : bnd (s : Rat) := bnd_int (by omega)
  rw [tsL_drop hi] at hqq
  have okr := okV_drop hok (i + 1)
  have hrn : (tsL (vF fast) l).drop (i + 1) = [] ↔ i = l.length - 1 := by
    rw [List.drop_eq_nil_iff, List.length_map]; omega
  generalize hR : (tsL (vF fast) l).drop (i + 1) = R at *
  generalize hVV : vF fast (l.getD i (0, 0, 0)) = v at *
  obtain ⟨th, hth2⟩ : ∃ th, th = (l.getD i (0, 0, 0)).1 := ⟨_, rfl⟩
  rw [← hth2] at hth hqq
  have h2 := iR hvv.1
  have h1 := iR hth.1
  have c143 := C143 (x := th) (n := v.toNat) ⟨by omega, by omega, by omega⟩
  rw [show ((v.toNat : Nat) : Int) = v by omega] at c143
  have hbt2 := mk_bd (x := th) (n := v.toNat) (by omega)
  rw [mk_div hvv.1] at c143 hbt2
  have hbt : bnd ((th : Rat) / (v : Rat)) := ⟨by omega, by omega⟩
  have c145 := C145 ⟨hbl, hbt⟩
  have hcmp : (left.num * ((th : Rat) / (v : Rat)).den - ((th : Rat) / (v : Rat)).num * left.den).sign ≤ 0 ↔ left ≤ (th : Rat) / v := by
    rw [Rat.le_iff]
    generalize left.num * (((th : Rat) / (v : Rat)).den : Int) = A
    generalize ((th : Rat) / (v : Rat)).num * (left.den : Int) = B
    rcases Int.lt_trichotomy (A - B) 0 with h | h | h
    · rw [Int.sign_eq_neg_one_of_neg h]; omega
    · rw [h]; simp; omega
    · rw [Int.sign_eq_one_of_pos h]; omega
  generalize (left.num * ((th : Rat) / (v : Rat)).den - ((th : Rat) / (v : Rat)).num * left.den).sign = cc at *
  have c142v := C142 (n := v) (by omega)
  have c147 := C147 (a := left) (b := (v : Rat)) ⟨hbl, bnd_int (by omega)⟩
  have hmul : bnd (left * (v : Rat)) := by
    refine bnd_of (n := 10000000) (d := 1000000000000) (Rat.mul_nonneg hl0 (Rat.le_of_lt h2)) ?_ (by decide) ?_ (Nat.le_refl _)
    · have e1 : left * (v : Rat) ≤ ((100000 : Int) : Rat) * v := Rat.mul_le_mul_of_nonneg_right hl1 (Rat.le_of_lt h2)
      have e2 : ((100000 : Int) : Rat) * (v : Rat) ≤ ((10000000 : Int) : Rat) := by
        rw [← Rat.intCast_mul]
        exact Rat.intCast_le_intCast.2 (by omega)
      exact Rat.le_trans e1 e2
    · have := den_mul (a := left) (b := (v : Rat))
      rw [Rat.den_intCast, Nat.mul_one] at this
      omega
  have c146 := C146 (a := (s : Rat)) (b := left * (v : Rat)) ⟨hbs, hmul⟩
  have c148 := C148 (a := left) (b := (th : Rat) / v) ⟨hbl, hbt⟩
  have c142t := C142 (n := th) (by omega)
  have c146s := C146 (a := (s : Rat)) (b := (th : Rat)) ⟨hbs, bnd_int (by omega)⟩
  rw [← Rat.intCast_add] at c146s
  rw [hF] at c143 c142v c142t
  rw [hF, hF] at c145
  rw [hF, hF, hF] at c147 c146 c148 c146s
  have hend : (i = l.length - 1 ∨ left ≤ (th : Rat) / v) → q = (s : Rat) + left * v := fun h => by
    rw [hqq, DQ]
    by_cases hc : R = [] ∨ left * (v : Rat) < (th : Rat)
    · rw [if_pos hc]
    · rw [if_neg hc]
      have h9 : left ≤ (th : Rat) / v := h.resolve_left fun h8 => hc (.inl (hrn.2 h8))
      have h8 : (th : Rat) ≤ left * v := Rat.not_lt.1 fun h7 => hc (.inr h7)
      have h7 : (th : Rat) / v ≤ left := (q_le h2).2 h8
      have h6 : left = (th : Rat) / v := Rat.le_antisymm h9 h7
      have h5 : left - (th : Rat) / v = 0 := by rw [h6]; grind
      rw [h5, DQ_0' okr, h6, Rat.div_mul_cancel (by grind)]
      grind
  have hgo : ¬ (i = l.length - 1 ∨ left ≤ (th : Rat) / v) → q = ((s + th : Int) : Rat) + DQ R (left - (th : Rat) / v) ∧ 0 ≤ left - (th : Rat) / v ∧ left - (th : Rat) / v ≤ left := fun h => by
    have h9 : (th : Rat) / v < left := Rat.not_le.1 fun h8 => h (.inr h8)
    have h8 : ¬ left * (v : Rat) < (th : Rat) := fun h7 => by
      have h6 := (q_le h2).1 (Rat.le_of_lt h9)
      exact absurd h7 (Rat.not_lt.2 h6)
    have h10 := div_nn (Rat.le_of_lt h1) h2
    refine ⟨?_, by grind, by grind⟩
    rw [hqq, DQ, if_neg (fun hh => hh.elim (fun h7 => h (.inl (hrn.1 h7))) h8), Rat.intCast_add]
    grind
  have hnew : ¬ (i = l.length - 1 ∨ left ≤ (th : Rat) / v) → (i + 1 < l.length ∧ 0 ≤ s + th ∧ s + th ≤ 10000 * ((i + 1 : Nat) : Int)) ∧ (0 ≤ left - (th : Rat) / v ∧ left - (th : Rat) / v ≤ ((100000 : Int) : Rat) ∧ (left - (th : Rat) / v).den ≤ 100 ^ (i + 1)) ∧ q = ((s + th : Int) : Rat) + DQ R (left - (th : Rat) / v) := fun h => by
    obtain ⟨g1, g2, g3⟩ := hgo h
    refine ⟨⟨by omega, by omega, by omega⟩, ⟨g2, Rat.le_trans g3 hl1, ?_⟩, g1⟩
    have h3 := den_sub (a := left) (b := (th : Rat) / v)
    have h4 : left.den * ((th : Rat) / v).den ≤ 100 ^ i * 100 := Nat.mul_le_mul hld (by omega)
    rw [Nat.pow_succ]; omega
  clear hgo
  subst hth2
  (repeat' first | (refine Owe.same ?_; first | refine Owe.o ?_ | refine Owe.mk ?_ ?_) | (refine Fork.same ?_; (first | refine fkY ?_ | refine fkF ?_ | ((first | refine fkD ?_ ?_ | refine fkN ?_ ?_ | refine fkM ?_ ?_) <;> intro h))) | ((first | refine OpsL.same ?_ | refine OpsDL.same ?_); first | refine oK cvi rfl rfl rfl ?_ | refine oK c143 rfl rfl rfl ?_) | refine MvQ.stay ?_)
  · rw [hend (.inl (by omega))]
    (repeat' first | (refine Owe.same ?_; first | refine Owe.o ?_ | refine Owe.mk ?_ ?_) | (refine Fork.same ?_; (first | refine fkY ?_ | refine fkF ?_ | ((first | refine fkD ?_ ?_ | refine fkN ?_ ?_ | refine fkM ?_ ?_) <;> intro h))) | ((first | refine OpsL.same ?_ | refine OpsDL.same ?_); first | refine oK cvi rfl rfl rfl ?_ | refine oK c142v rfl rfl rfl ?_ | refine oK c147 rfl rfl rfl ?_ | refine oK c146 rfl rfl rfl ?_) | refine MvQ.stay ?_)
    (refine rqK rfl ?_; (repeat' first | exact rfl | (refine qS ?_; constructor)))
  · have hne := h
    (repeat' first | (refine Owe.same ?_; first | refine Owe.o ?_ | refine Owe.mk ?_ ?_) | (refine Fork.same ?_; (first | refine fkY ?_ | refine fkF ?_ | ((first | refine fkD ?_ ?_ | refine fkN ?_ ?_ | refine fkM ?_ ?_) <;> intro h))) | ((first | refine OpsL.same ?_ | refine OpsDL.same ?_); first | refine oK c145 rfl rfl rfl ?_) | refine MvQ.stay ?_)
    · rw [hend (.inr (hcmp.1 h))]
      (repeat' first | (refine Owe.same ?_; first | refine Owe.o ?_ | refine Owe.mk ?_ ?_) | (refine Fork.same ?_; (first | refine fkY ?_ | refine fkF ?_ | ((first | refine fkD ?_ ?_ | refine fkN ?_ ?_ | refine fkM ?_ ?_) <;> intro h))) | ((first | refine OpsL.same ?_ | refine OpsDL.same ?_); first | refine oK cvi rfl rfl rfl ?_ | refine oK c142v rfl rfl rfl ?_ | refine oK c147 rfl rfl rfl ?_ | refine oK c146 rfl rfl rfl ?_) | refine MvQ.stay ?_)
      (refine rqK rfl ?_; (repeat' first | exact rfl | (refine qS ?_; constructor)))
    · have hno : ¬ (i = l.length - 1 ∨ left ≤ ((l.getD i (0, 0, 0)).1 : Rat) / v) := fun hh => hh.elim (fun h9 => hne (by omega)) (fun h9 => h (hcmp.2 h9))
      obtain ⟨g1, g2, g3⟩ := hnew hno
      rw [← hR] at g3
      (repeat' first | (refine Owe.same ?_; first | refine Owe.o ?_ | refine Owe.mk ?_ ?_) | (refine Fork.same ?_; (first | refine fkY ?_ | refine fkF ?_ | ((first | refine fkD ?_ ?_ | refine fkN ?_ ?_ | refine fkM ?_ ?_) <;> intro h))) | ((first | refine OpsL.same ?_ | refine OpsDL.same ?_); first | refine oK c148 rfl rfl rfl ?_ | refine oK c142t rfl rfl rfl ?_ | refine oK c146s rfl rfl rfl ?_) | refine MvQ.stay ?_)
      refine again (i + 1, left - ((l.getD i (0, 0, 0)).1 : Rat) / v, s + (l.getD i (0, 0, 0)).1) [0, 1, 2] ⟨g1, g2, g3⟩ (by simp only; omega) ?_
      (refine qis ?_ ?_ <;> (repeat' first | exact rfl | (refine qS ?_; constructor)))
theorem C105 {l : List Dv} {D : Int} {fast : Bool} : (LyOk l ∧ 0 ≤ D ∧ D ≤ 100000) → PFD Tryz.prog 105 [.c (trs l), vi .i64 D, vbl fast] (rq (LQ (tsL (vF fast) l) (D : Rat))) := fun ⟨hO, hD⟩ => by
  have hn := hO.n
  have hok := hO.okv fast
  have hv := fun i hi => hO.v fast (i := i) hi
  have cv := fun x : Dv => C144 (x := x) (fast := fast)
  obtain ⟨f1, f2, f3, f4, hF⟩ := rq_fn
  obtain ⟨q, hq⟩ : ∃ q, q = LQ (tsL (vF fast) l) (D : Rat) := ⟨_, rfl⟩
  rw [← hq, hF]
  have c142z := C142 (n := 0) (by decide)
  rw [hF] at c142z
  have hz : (0 : Rat) = ((0 : Int) : Rat) := rfl
  refine pi1 fn105 ?_
  (repeat' first | (refine Owe.same ?_; first | refine Owe.o ?_ | refine Owe.mk ?_ ?_) | (refine Fork.same ?_; (first | refine fkY ?_ | refine fkF ?_ | ((first | refine fkD ?_ ?_ | refine fkN ?_ ?_ | refine fkM ?_ ?_) <;> intro h))) | ((first | refine OpsL.same ?_ | refine OpsDL.same ?_); first | refine oK c142z rfl rfl rfl ?_) | refine MvQ.stay ?_)
  refine Sat.lp (fun (i, left, s) => ⟨[(9, vi .i64 (i : Nat)), (0, .c (trs l)), (2, vbl fast), (7, vi .i64 left), (6, .c (.bp 0 0)), (8, .c (.bp 1 0))], [(0, .box [int 0, .d (.v (.slice none 0 0)), int 0, .d (.v (.slice none 0 0))]), (1, .box [int (f1 s), ints (f2 s), int (f3 s), ints (f4 s)])], 2⟩)
    (fun ((i, left, s) : Nat × Int × Rat) => (i < l.length ∧ 0 ≤ left ∧ left ≤ 100000) ∧ (0 ≤ s ∧ s ≤ ((10000 * (i : Int) : Int) : Rat) ∧ s.den ≤ 100 ^ i) ∧ q = s + LQ ((tsL (vF fast) l).drop i) (left : Rat)) (fun (i, _, _) => l.length - i) (0, D, ((0 : Int) : Rat)) [0, 1] ⟨⟨hn.1, hD⟩, ⟨Rat.intCast_le_intCast.2 (by decide), Rat.intCast_le_intCast.2 (by decide), by rw [Rat.den_intCast]; decide⟩, by rw [hq, List.drop_zero, ← hz, Rat.zero_add]⟩ ?_ ?_
  · (refine qis ?_ ?_ <;> (repeat' first | exact rfl | (refine qS ?_; constructor)))
  rintro ⟨i, left, s⟩ ⟨⟨hi, hl⟩, ⟨hs0, hs1, hsd⟩, hqq⟩
  obtain ⟨hth, hvv⟩ := hv i hi
  have cvi := cv (l.getD i (0, 0, 0))
  have hp6 := pow100 (show i ≤ 6 by omega)
  have hbs : bnd s := bnd_of hs0 hs1 (by omega) hsd hp6
  rw [tsL_drop hi] at hqq
  have hrn : (tsL (vF fast) l).drop (i + 1) = [] ↔ i = l.length - 1 := by
    rw [List.drop_eq_nil_iff, List.length_map]; omega
  generalize hR : (tsL (vF fast) l).drop (i + 1) = R at *
  generalize hVV : vF fast (l.getD i (0, 0, 0)) = v at *
  obtain ⟨th, hth2⟩ : ∃ th, th = (l.getD i (0, 0, 0)).1 := ⟨_, rfl⟩
  rw [← hth2] at hth hqq
  have h2 := iR hvv.1
  have h1 := iR hth.1
  have c143 := C143 (x := left) (n := v.toNat) ⟨by omega, by omega, by omega⟩
  have c143t := C143 (x := th) (n := v.toNat) ⟨by omega, by omega, by omega⟩
  rw [show ((v.toNat : Nat) : Int) = v by omega] at c143 c143t
  have hbl2 := mk_bd (x := left) (n := v.toNat) (by omega)
  have hbt2 := mk_bd (x := th) (n := v.toNat) (by omega)
  rw [mk_div hvv.1] at c143 hbl2
  rw [mk_div hvv.1] at c143t hbt2
  have hbl : bnd ((left : Rat) / (v : Rat)) := ⟨by omega, by omega⟩
  have hbt : bnd ((th : Rat) / (v : Rat)) := ⟨by omega, by omega⟩
  have c146 := C146 (a := s) (b := (left : Rat) / v) ⟨hbs, hbl⟩
  have c146t := C146 (a := s) (b := (th : Rat) / v) ⟨hbs, hbt⟩
  rw [hF] at c143 c143t
  rw [hF, hF, hF] at c146 c146t
  have hend : (i = l.length - 1 ∨ left ≤ th) → q = s + (left : Rat) / v := fun h => by
    rw [hqq, LQ, if_pos (h.imp hrn.2 fun h => Rat.intCast_le_intCast.2 h)]
  have hgo : ¬ (i = l.length - 1 ∨ left ≤ th) → (i + 1 < l.length ∧ 0 ≤ left - th ∧ left - th ≤ 100000) ∧ (0 ≤ s + (th : Rat) / v ∧ s + (th : Rat) / v ≤ ((10000 * ((i + 1 : Nat) : Int) : Int) : Rat) ∧ (s + (th : Rat) / v).den ≤ 100 ^ (i + 1)) ∧ q = (s + (th : Rat) / v) + LQ R ((left - th : Int) : Rat) := fun h => by
    have h10 := div_nn (Rat.le_of_lt h1) h2
    have h11 : (th : Rat) / v ≤ ((10000 : Int) : Rat) := by
      have e1 : (th : Rat) / v ≤ (th : Rat) := (q_le h2).2 (by
        have : (th : Rat) * ((1 : Int) : Rat) ≤ (th : Rat) * v := Rat.mul_le_mul_of_nonneg_left (Rat.intCast_le_intCast.2 hvv.1) (Rat.le_of_lt h1)
        rwa [show ((1 : Int) : Rat) = 1 from rfl, Rat.mul_one] at this)
      exact Rat.le_trans e1 (Rat.intCast_le_intCast.2 hth.2)
    refine ⟨⟨by omega, by omega, by omega⟩, ⟨by grind, ?_, ?_⟩, ?_⟩
    · rw [show (10000 * ((i + 1 : Nat) : Int) : Int) = 10000 * (i : Int) + 10000 by omega, Rat.intCast_add]
      grind
    · have h3 := den_add (a := s) (b := (th : Rat) / v)
      have h4 : s.den * ((th : Rat) / v).den ≤ 100 ^ i * 100 := Nat.mul_le_mul hsd (by omega)
      rw [Nat.pow_succ]; omega
    · rw [hqq, LQ, if_neg (fun hh => hh.elim (fun h7 => h (.inl (hrn.1 h7))) (fun h7 => h (.inr (Rat.intCast_le_intCast.1 h7)))), Rat.intCast_sub]
      grind
  subst hth2
  (repeat' first | (refine Owe.same ?_; first | refine Owe.o ?_ | refine Owe.mk ?_ ?_) | (refine Fork.same ?_; (first | refine fkY ?_ | refine fkF ?_ | ((first | refine fkD ?_ ?_ | refine fkN ?_ ?_ | refine fkM ?_ ?_) <;> intro h))) | ((first | refine OpsL.same ?_ | refine OpsDL.same ?_); first | refine oK cvi rfl rfl rfl ?_ | refine oK C163 rfl rfl rfl ?_) | refine MvQ.stay ?_)
  · rw [hend (.inl (by omega))]
    (repeat' first | (refine Owe.same ?_; first | refine Owe.o ?_ | refine Owe.mk ?_ ?_) | (refine Fork.same ?_; (first | refine fkY ?_ | refine fkF ?_ | ((first | refine fkD ?_ ?_ | refine fkN ?_ ?_ | refine fkM ?_ ?_) <;> intro h))) | ((first | refine OpsL.same ?_ | refine OpsDL.same ?_); first | refine oK c143 rfl rfl rfl ?_ | refine oK c146 rfl rfl rfl ?_) | refine MvQ.stay ?_)
    (refine rqK rfl ?_; (repeat' first | exact rfl | (refine qS ?_; constructor)))
  · rw [hend (.inr h)]
    (repeat' first | (refine Owe.same ?_; first | refine Owe.o ?_ | refine Owe.mk ?_ ?_) | (refine Fork.same ?_; (first | refine fkY ?_ | refine fkF ?_ | ((first | refine fkD ?_ ?_ | refine fkN ?_ ?_ | refine fkM ?_ ?_) <;> intro h))) | ((first | refine OpsL.same ?_ | refine OpsDL.same ?_); first | refine oK cvi rfl rfl rfl ?_ | refine oK c143 rfl rfl rfl ?_ | refine oK c146 rfl rfl rfl ?_) | refine MvQ.stay ?_)
    (refine rqK rfl ?_; (repeat' first | exact rfl | (refine qS ?_; constructor)))
  · have hne : ¬ (i = l.length - 1 ∨ left ≤ (l.getD i (0, 0, 0)).1) := fun hh => hh.elim (fun h9 => by omega) (fun h9 => h h9)
    obtain ⟨g1, g2, g3⟩ := hgo hne
    rw [← hR] at g3
    (repeat' first | (refine Owe.same ?_; first | refine Owe.o ?_ | refine Owe.mk ?_ ?_) | (refine Fork.same ?_; (first | refine fkY ?_ | refine fkF ?_ | ((first | refine fkD ?_ ?_ | refine fkN ?_ ?_ | refine fkM ?_ ?_) <;> intro h))) | ((first | refine OpsL.same ?_ | refine OpsDL.same ?_); first | refine oK cvi rfl rfl rfl ?_ | refine oK c143t rfl rfl rfl ?_ | refine oK c146t rfl rfl rfl ?_) | refine MvQ.stay ?_)
    refine again (i + 1, left - (l.getD i (0, 0, 0)).1, s + ((l.getD i (0, 0, 0)).1 : Rat) / v) [0, 1] ⟨g1, g2, g3⟩ (by simp only; omega) ?_
    (refine qis ?_ ?_ <;> (repeat' first | exact rfl | (refine qS ?_; constructor)))
end Go.Pw

set_option linter.unusedSimpArgs false
set_option linter.unusedVariables false
set_option maxHeartbeats 1000000
namespace Go.Pw
set_option maxRecDepth 2000
open Go Go.Proofs A1 A2 A3 A4
theorem ceil_nat {a b : Nat} (hb : 0 < b) : (a + b - 1) / b = if a % b = 0 then a / b else a / b + 1 := by
  have h := Nat.div_add_mod a b
  have hlt := Nat.mod_lt a hb
  generalize a / b = q at *
  generalize a % b = r at *
  split
  · rename_i h0
    subst h0
    rw [show a + b - 1 = (b - 1) + b * q by omega, Nat.add_mul_div_left _ _ hb, Nat.div_eq_of_lt (by omega)]; omega
  · rw [show a + b - 1 = (r - 1) + b * (q + 1) by rw [Nat.mul_add]; omega, Nat.add_mul_div_left _ _ hb, Nat.div_eq_of_lt (by omega)]; omega
/-- A fraction of two numbers, rounded either way. -/
theorem quo_rnd {q : Qt} (hb : 0 < q.2) : (qV q).num / (qV q).den = ((q.1 / q.2 : Nat) : Int) ∧ -(-(qV q).num / (qV q).den) = (((q.1 + q.2 - 1) / q.2 : Nat) : Int) ∧ (qV q).num.natAbs ≤ q.1 ∧ (qV q).den ≤ q.2 := by
  obtain ⟨a, b⟩ := q
  simp only at hb
  have e : qV (a, b) = mkRat (a : Int) b := by rw [Rat.mkRat_eq_div]; rfl
  have hbd := mk_bd (x := (a : Int)) hb
  obtain ⟨e1, e2⟩ := mkR (x := (a : Int)) hb
  rw [e]
  refine ⟨?_, ?_, by simpa using hbd.1, hbd.2⟩
  all_goals
    rw [e1, e2, Int.natAbs_natCast]
    have hg : 0 < Nat.gcd a b := Nat.gcd_pos_of_pos_right _ hb
    have f1 : Nat.gcd a b * (a / Nat.gcd a b) = a := Nat.mul_div_cancel' (Nat.gcd_dvd_left _ _)
    have f2 : Nat.gcd a b * (b / Nat.gcd a b) = b := Nat.mul_div_cancel' (Nat.gcd_dvd_right _ _)
    rw [← Int.natCast_ediv]
    have hb' : 0 < b / Nat.gcd a b := Nat.div_pos (Nat.le_of_dvd hb (Nat.gcd_dvd_right _ _)) hg
    generalize a / Nat.gcd a b = a' at *
    generalize b / Nat.gcd a b = b' at *
    generalize Nat.gcd a b = g at *
    clear e1 e2 hbd e
    subst f1 f2
  · rw [Nat.mul_div_mul_left _ _ hg, Int.natCast_ediv]
  · rw [neg_div hb', ceil_nat hb, Nat.mul_div_mul_left _ _ hg, Nat.mul_mod_mul_left]
    have : g * (a' % b') = 0 ↔ a' % b' = 0 := by rw [Nat.mul_eq_zero]; omega
    by_cases h : a' % b' = 0
    · rw [if_pos h, if_pos (this.2 h)]; omega
    · rw [if_neg h, if_neg (fun hh => h (this.1 hh))]; omega
theorem fin40 {q : Qt} (h0 : 0 < q.2) (h1 : q.2 ≤ 1000000000000) (h2 : q.1 ≤ 200000000000000000) : bnd (qV q) ∧ ((q.1 / q.2 : Nat) : Int).natAbs < 1000000000000000000 ∧ (((q.1 + q.2 - 1) / q.2 : Nat) : Int).natAbs < 1000000000000000000 := by
  obtain ⟨_, _, e1, e2⟩ := quo_rnd h0
  have h3 := Nat.div_le_self q.1 q.2
  have h4 := Nat.div_le_self (q.1 + q.2 - 1) q.2
  exact ⟨⟨by omega, by omega⟩, by rw [Int.natAbs_natCast]; omega, by rw [Int.natAbs_natCast]; omega⟩
theorem C40 {l : List Dv} {T : Int} : (LyOk l ∧ 0 ≤ T ∧ T ≤ 100000) → PFD Tryz.prog 40 [.c (trs l), vi .i64 T] (pr ((((deepS lo T.toNat l (0, 1) 0).1 / (deepS lo T.toNat l (0, 1) 0).2 : Nat) : Int), (((deepS hi T.toNat l (0, 1) 0).1 + (deepS hi T.toNat l (0, 1) 0).2 - 1) / (deepS hi T.toNat l (0, 1) 0).2 : Nat))) := fun ⟨hO, hT⟩ => by
  have hn := hO.n
  have d1 := deepS_bd (sp := lo) (T := T.toNat) (by omega) l 0 (0, 1) 0 (fun x hx => by have := hO.mem hx; simp only [lo]; omega) (by omega) (by decide) (by decide) (by simp) (by simp)
  have d2 := deepS_bd (sp := hi) (T := T.toNat) (by omega) l 0 (0, 1) 0 (fun x hx => by have := hO.mem hx; simp only [hi]; omega) (by omega) (by decide) (by decide) (by simp) (by simp)
  have hne : l ≠ [] := fun h => by rw [h] at hn; exact absurd hn.1 (by decide)
  have q0 : qV (0, 1) = 0 := qV_eq (by decide) (by rw [Rat.zero_mul]; rfl)
  have v1 := deepS_v (v := lo) (T := T.toNat) (l := l) (p := (0, 1)) (top := 0) (hO.okv false) hne (by decide) (by simp)
  have v2 := deepS_v (v := hi) (T := T.toNat) (l := l) (p := (0, 1)) (top := 0) (hO.okv true) hne (by decide) (by simp)
  have z0 : ((0 : Nat) : Rat) = 0 := rfl
  rw [q0, z0, Rat.zero_add, ratN hT.1, show (T : Rat) - 0 = T by grind] at v1 v2
  have c1 := C103 (l := l) (T := T) (fast := false) ⟨hO, hT⟩
  have c2 := C103 (l := l) (T := T) (fast := true) ⟨hO, hT⟩
  have w1 : tsL (vF false) l = tsL lo l := rfl
  have w2 : tsL (vF true) l = tsL hi l := rfl
  rw [w1, ← v1] at c1
  rw [w2, ← v2] at c2
  clear v1 v2 w1 w2
  generalize deepS lo T.toNat l (0, 1) 0 = p at *
  generalize deepS hi T.toNat l (0, 1) 0 = q at *
  obtain ⟨b1, s1, _⟩ := fin40 d1.1 d1.2.1 d1.2.2
  obtain ⟨b2, _, s2⟩ := fin40 d2.1 d2.2.1 d2.2.2
  obtain ⟨r1, _⟩ := quo_rnd d1.1
  obtain ⟨_, r2, _⟩ := quo_rnd d2.1
  have c3 := C102 b1
  have c4 := C104 b2
  rw [r1] at c3
  rw [r2] at c4
  have c5 := C101 s1
  have c6 := C101 s2
  have key : ∀ (s t s' t' u v x y : Int) (a b a' b' c d : List Int), PFD Tryz.prog 103 [.c (trs l), vi .i64 T, vbl false] (r4 s a t b) → PFD Tryz.prog 103 [.c (trs l), vi .i64 T, vbl true] (r4 s' a' t' b') → PFD Tryz.prog 102 [r4 s a t b] (wv u c) → PFD Tryz.prog 104 [r4 s' a' t' b'] (wv v d) → PFD Tryz.prog 101 [wv u c] (.tup [vi .i64 x, vbl true]) → PFD Tryz.prog 101 [wv v d] (.tup [vi .i64 y, vbl true]) → PFD Tryz.prog 40 [.c (trs l), vi .i64 T] (pr (x, y)) := fun s t s' t' u v x y a b a' b' c d q1 q2 q3 q4 q5 q6 => by
    refine pi1 fn40 ?_
    ((first | refine OpsL.same ?_ | refine OpsDL.same ?_); first | refine pK q1 rfl rfl ?_)
    (repeat' first | (refine Owe.same ?_; first | refine Owe.o ?_ | refine Owe.mk ?_ ?_) | (refine Fork.same ?_; (first | refine fkY ?_ | refine fkF ?_ | ((first | refine fkD ?_ ?_ | refine fkN ?_ ?_ | refine fkM ?_ ?_) <;> intro h))) | ((first | refine OpsL.same ?_ | refine OpsDL.same ?_); first | refine oK q3 rfl rfl rfl ?_) | refine MvQ.stay ?_)
    ((first | refine OpsL.same ?_ | refine OpsDL.same ?_); first | refine pK q5 rfl rfl ?_)
    (repeat' first | (refine Owe.same ?_; first | refine Owe.o ?_ | refine Owe.mk ?_ ?_) | (refine Fork.same ?_; (first | refine fkD ?_ ?_ | refine fkN ?_ ?_ | refine fkM ?_ ?_) <;> intro h) | refine MvQ.stay ?_)
    ((first | refine OpsL.same ?_ | refine OpsDL.same ?_); first | refine pK q2 rfl rfl ?_)
    (repeat' first | (refine Owe.same ?_; first | refine Owe.o ?_ | refine Owe.mk ?_ ?_) | (refine Fork.same ?_; (first | refine fkY ?_ | refine fkF ?_ | ((first | refine fkD ?_ ?_ | refine fkN ?_ ?_ | refine fkM ?_ ?_) <;> intro h))) | ((first | refine OpsL.same ?_ | refine OpsDL.same ?_); first | refine oK q4 rfl rfl rfl ?_) | refine MvQ.stay ?_)
    ((first | refine OpsL.same ?_ | refine OpsDL.same ?_); first | refine pK q6 rfl rfl ?_)
    (repeat' first | (refine Owe.same ?_; first | refine Owe.o ?_ | refine Owe.mk ?_ ?_) | (refine Fork.same ?_; (first | refine fkD ?_ ?_ | refine fkN ?_ ?_ | refine fkM ?_ ?_) <;> intro h) | refine MvQ.stay ?_)
    (refine rqK rfl ?_; (repeat' first | exact rfl | (refine qS ?_; constructor)))
  exact key _ _ _ _ _ _ _ _ _ _ _ _ _ _ c1 c2 c3 c4 c5 c6
theorem C41 {l : List Dv} {D : Int} : (LyOk l ∧ 0 ≤ D ∧ D ≤ 100000) → PFD Tryz.prog 41 [.c (trs l), vi .i64 D] (pr ((((lateS hi l D (0, 1)).1 / (lateS hi l D (0, 1)).2 : Nat) : Int), (((lateS lo l D (0, 1)).1 + (lateS lo l D (0, 1)).2 - 1) / (lateS lo l D (0, 1)).2 : Nat))) := fun ⟨hO, hT⟩ => by
  have hn := hO.n
  have d1 := lateS_bd (sp := lo) l 0 D (0, 1) (fun x hx => by have := hO.mem hx; simp only [lo]; omega) (by omega) (by decide) (by decide) (by simp) hT.1 hT.2
  have d2 := lateS_bd (sp := hi) l 0 D (0, 1) (fun x hx => by have := hO.mem hx; simp only [hi]; omega) (by omega) (by decide) (by decide) (by simp) hT.1 hT.2
  have hne : l ≠ [] := fun h => by rw [h] at hn; exact absurd hn.1 (by decide)
  have q0 : qV (0, 1) = 0 := qV_eq (by decide) (by rw [Rat.zero_mul]; rfl)
  have v1 := lateS_v (v := lo) (l := l) (d := D) (q := (0, 1)) (hO.okv false) hne (by decide) hT.1
  have v2 := lateS_v (v := hi) (l := l) (d := D) (q := (0, 1)) (hO.okv true) hne (by decide) hT.1
  rw [q0, Rat.zero_add] at v1 v2
  have c1 := C105 (l := l) (D := D) (fast := false) ⟨hO, hT⟩
  have c2 := C105 (l := l) (D := D) (fast := true) ⟨hO, hT⟩
  have w1 : tsL (vF false) l = tsL lo l := rfl
  have w2 : tsL (vF true) l = tsL hi l := rfl
  rw [w1, ← v1] at c1
  rw [w2, ← v2] at c2
  clear v1 v2 w1 w2
  generalize lateS lo l D (0, 1) = p at *
  generalize lateS hi l D (0, 1) = q at *
  obtain ⟨b1, _, s1⟩ := fin40 d1.1 d1.2.1 d1.2.2
  obtain ⟨b2, s2, _⟩ := fin40 d2.1 d2.2.1 d2.2.2
  obtain ⟨_, r1, _⟩ := quo_rnd d1.1
  obtain ⟨r2, _⟩ := quo_rnd d2.1
  have c3 := C104 b1
  have c4 := C102 b2
  rw [r1] at c3
  rw [r2] at c4
  have c5 := C101 s1
  have c6 := C101 s2
  have key : ∀ (s t s' t' u v x y : Int) (a b a' b' c d : List Int), PFD Tryz.prog 105 [.c (trs l), vi .i64 D, vbl true] (r4 s a t b) → PFD Tryz.prog 105 [.c (trs l), vi .i64 D, vbl false] (r4 s' a' t' b') → PFD Tryz.prog 102 [r4 s a t b] (wv u c) → PFD Tryz.prog 104 [r4 s' a' t' b'] (wv v d) → PFD Tryz.prog 101 [wv u c] (.tup [vi .i64 x, vbl true]) → PFD Tryz.prog 101 [wv v d] (.tup [vi .i64 y, vbl true]) → PFD Tryz.prog 41 [.c (trs l), vi .i64 D] (pr (x, y)) := fun s t s' t' u v x y a b a' b' c d q1 q2 q3 q4 q5 q6 => by
    refine pi1 fn41 ?_
    ((first | refine OpsL.same ?_ | refine OpsDL.same ?_); first | refine pK q1 rfl rfl ?_)
    (repeat' first | (refine Owe.same ?_; first | refine Owe.o ?_ | refine Owe.mk ?_ ?_) | (refine Fork.same ?_; (first | refine fkY ?_ | refine fkF ?_ | ((first | refine fkD ?_ ?_ | refine fkN ?_ ?_ | refine fkM ?_ ?_) <;> intro h))) | ((first | refine OpsL.same ?_ | refine OpsDL.same ?_); first | refine oK q3 rfl rfl rfl ?_) | refine MvQ.stay ?_)
    ((first | refine OpsL.same ?_ | refine OpsDL.same ?_); first | refine pK q5 rfl rfl ?_)
    (repeat' first | (refine Owe.same ?_; first | refine Owe.o ?_ | refine Owe.mk ?_ ?_) | (refine Fork.same ?_; (first | refine fkD ?_ ?_ | refine fkN ?_ ?_ | refine fkM ?_ ?_) <;> intro h) | refine MvQ.stay ?_)
    ((first | refine OpsL.same ?_ | refine OpsDL.same ?_); first | refine pK q2 rfl rfl ?_)
    (repeat' first | (refine Owe.same ?_; first | refine Owe.o ?_ | refine Owe.mk ?_ ?_) | (refine Fork.same ?_; (first | refine fkY ?_ | refine fkF ?_ | ((first | refine fkD ?_ ?_ | refine fkN ?_ ?_ | refine fkM ?_ ?_) <;> intro h))) | ((first | refine OpsL.same ?_ | refine OpsDL.same ?_); first | refine oK q4 rfl rfl rfl ?_) | refine MvQ.stay ?_)
    ((first | refine OpsL.same ?_ | refine OpsDL.same ?_); first | refine pK q6 rfl rfl ?_)
    (repeat' first | (refine Owe.same ?_; first | refine Owe.o ?_ | refine Owe.mk ?_ ?_) | (refine Fork.same ?_; (first | refine fkD ?_ ?_ | refine fkN ?_ ?_ | refine fkM ?_ ?_) <;> intro h) | refine MvQ.stay ?_)
    (refine rqK rfl ?_; (repeat' first | exact rfl | (refine qS ?_; constructor)))
  exact key _ _ _ _ _ _ _ _ _ _ _ _ _ _ c2 c1 c4 c3 c6 c5
theorem C6 {l : List Dv} {T D : Int} : PFD Tryz.prog 6 [.c (trs l), vi .i64 T, vi .i64 D] (vbl true) := by
  by_cases hl : l.length ≤ 8
  rotate_left
  · refine pi1 fn6 ?_
    (repeat' first | (refine Owe.same ?_; first | refine Owe.o ?_ | refine Owe.mk ?_ ?_) | (refine Fork.same ?_; (first | refine fkY ?_ | refine fkF ?_ | ((first | refine fkD ?_ ?_ | refine fkN ?_ ?_ | refine fkM ?_ ?_) <;> intro h))) | ((first | refine OpsL.same ?_ | refine OpsDL.same ?_); first | refine oK C10 rfl rfl rfl ?_) | refine MvQ.stay ?_)
    (refine rqK rfl ?_; (repeat' first | exact rfl | (refine qS ?_; constructor)))
  have c36 := C36 (l := l) (by omega)
  have c35 := C35 (l := l) (by omega)
  have c39 := C39 (l := l)
  have c37 := C37 (l := l) (T := T) (by omega)
  have c38 := C38 (l := l) (D := D) (by omega)
  have cT := C14 (n := T) (lo := 0) (hi := 100000)
  have cD := C14 (n := D) (lo := 0) (hi := 100000)
  by_cases h0 : (lysE l).2 = 0
  · have hO := lysE_ok h0
    rw [h0] at c35 c39
    have hE : ∀ n m, lsE l n m = unl (0 ≤ n ∧ n ≤ m) 2 := fun n m => by rw [lsE, h0, fst_z]; unfold fstE; split <;> simp_all [fstE]
    generalize (lysE l).1 = k at *
    by_cases hT : 0 ≤ T ∧ T ≤ 100000
    · have eT : lsE l T 100000 = 0 := by rw [hE]; exact (unl0 (by decide)).2 hT
      rw [dpS, if_pos eT] at c37
      have c40 := C40 ⟨hO, hT⟩
      rw [decide_eq_true hT] at cT
      by_cases hD : 0 ≤ D ∧ D ≤ 100000
      · have eD : lsE l D 100000 = 0 := by rw [hE]; exact (unl0 (by decide)).2 hD
        rw [tmS, if_pos eD] at c38
        have c41 := C41 ⟨hO, hD⟩
        rw [decide_eq_true hD] at cD
        generalize ((((deepS lo T.toNat l (0, 1) 0).1 / (deepS lo T.toNat l (0, 1) 0).2 : Nat) : Int)) = x1 at *
        generalize ((((deepS hi T.toNat l (0, 1) 0).1 + (deepS hi T.toNat l (0, 1) 0).2 - 1) / (deepS hi T.toNat l (0, 1) 0).2 : Nat) : Int) = x2 at *
        generalize ((((lateS hi l D (0, 1)).1 / (lateS hi l D (0, 1)).2 : Nat) : Int)) = y1 at *
        generalize ((((lateS lo l D (0, 1)).1 + (lateS lo l D (0, 1)).2 - 1) / (lateS lo l D (0, 1)).2 : Nat) : Int) = y2 at *
        refine pi1 fn6 ?_
        (repeat' first | (refine Owe.same ?_; first | refine Owe.o ?_ | refine Owe.mk ?_ ?_) | (refine Fork.same ?_; (first | refine fkY ?_ | refine fkF ?_ | ((first | refine fkD ?_ ?_ | refine fkN ?_ ?_ | refine fkM ?_ ?_) <;> intro h))) | ((first | refine OpsL.same ?_ | refine OpsDL.same ?_); first | refine oK C10 rfl rfl rfl ?_ | refine oK c36 rfl rfl rfl ?_ | refine oK c35 rfl rfl rfl ?_ | refine oK c37 rfl rfl rfl ?_ | refine oK c38 rfl rfl rfl ?_ | refine oK c39 rfl rfl rfl ?_) | refine MvQ.stay ?_)
        ((first | refine OpsL.same ?_ | refine OpsDL.same ?_); first | refine pK cT rfl rfl ?_)
        (repeat' first | (refine Owe.same ?_; first | refine Owe.o ?_ | refine Owe.mk ?_ ?_) | (refine Fork.same ?_; (first | refine fkY ?_ | refine fkF ?_ | ((first | refine fkD ?_ ?_ | refine fkN ?_ ?_ | refine fkM ?_ ?_) <;> intro h))) | ((first | refine OpsL.same ?_ | refine OpsDL.same ?_); first | refine oK c40 rfl rfl rfl ?_) | refine MvQ.stay ?_)
        ((first | refine OpsL.same ?_ | refine OpsDL.same ?_); first | refine pK cD rfl rfl ?_)
        (repeat' first | (refine Owe.same ?_; first | refine Owe.o ?_ | refine Owe.mk ?_ ?_) | (refine Fork.same ?_; (first | refine fkY ?_ | refine fkF ?_ | ((first | refine fkD ?_ ?_ | refine fkN ?_ ?_ | refine fkM ?_ ?_) <;> intro h))) | ((first | refine OpsL.same ?_ | refine OpsDL.same ?_); first | refine oK c41 rfl rfl rfl ?_) | refine MvQ.stay ?_)
        (refine rqK rfl ?_; (repeat' first | exact rfl | (refine qS ?_; constructor)))
        all_goals first | rfl | simp
      · have eD : lsE l D 100000 = 2 := by rw [hE, unl, decide_eq_false hD]; rfl
        rw [tmS, eD, if_neg (by decide)] at c38
        rw [decide_eq_false hD] at cD
        generalize ((((deepS lo T.toNat l (0, 1) 0).1 / (deepS lo T.toNat l (0, 1) 0).2 : Nat) : Int)) = x1 at *
        generalize ((((deepS hi T.toNat l (0, 1) 0).1 + (deepS hi T.toNat l (0, 1) 0).2 - 1) / (deepS hi T.toNat l (0, 1) 0).2 : Nat) : Int) = x2 at *
        refine pi1 fn6 ?_
        (repeat' first | (refine Owe.same ?_; first | refine Owe.o ?_ | refine Owe.mk ?_ ?_) | (refine Fork.same ?_; (first | refine fkY ?_ | refine fkF ?_ | ((first | refine fkD ?_ ?_ | refine fkN ?_ ?_ | refine fkM ?_ ?_) <;> intro h))) | ((first | refine OpsL.same ?_ | refine OpsDL.same ?_); first | refine oK C10 rfl rfl rfl ?_ | refine oK c36 rfl rfl rfl ?_ | refine oK c35 rfl rfl rfl ?_ | refine oK c37 rfl rfl rfl ?_ | refine oK c38 rfl rfl rfl ?_ | refine oK c39 rfl rfl rfl ?_) | refine MvQ.stay ?_)
        ((first | refine OpsL.same ?_ | refine OpsDL.same ?_); first | refine pK cT rfl rfl ?_)
        (repeat' first | (refine Owe.same ?_; first | refine Owe.o ?_ | refine Owe.mk ?_ ?_) | (refine Fork.same ?_; (first | refine fkY ?_ | refine fkF ?_ | ((first | refine fkD ?_ ?_ | refine fkN ?_ ?_ | refine fkM ?_ ?_) <;> intro h))) | ((first | refine OpsL.same ?_ | refine OpsDL.same ?_); first | refine oK c40 rfl rfl rfl ?_) | refine MvQ.stay ?_)
        ((first | refine OpsL.same ?_ | refine OpsDL.same ?_); first | refine pK cD rfl rfl ?_)
        (repeat' first | (refine Owe.same ?_; first | refine Owe.o ?_ | refine Owe.mk ?_ ?_) | (refine Fork.same ?_; (first | refine fkY ?_ | refine fkF ?_ | ((first | refine fkD ?_ ?_ | refine fkN ?_ ?_ | refine fkM ?_ ?_) <;> intro h))) | ((first | refine OpsL.same ?_ | refine OpsDL.same ?_); first | refine oK C10 rfl rfl rfl ?_) | refine MvQ.stay ?_)
        (refine rqK rfl ?_; (repeat' first | exact rfl | (refine qS ?_; constructor)))
        all_goals first | rfl | simp
    · have eT : lsE l T 100000 = 2 := by rw [hE, unl, decide_eq_false hT]; rfl
      rw [dpS, eT, if_neg (by decide)] at c37
      rw [decide_eq_false hT] at cT
      by_cases hD : 0 ≤ D ∧ D ≤ 100000
      · have eD : lsE l D 100000 = 0 := by rw [hE]; exact (unl0 (by decide)).2 hD
        rw [tmS, if_pos eD] at c38
        have c41 := C41 ⟨hO, hD⟩
        rw [decide_eq_true hD] at cD
        generalize ((((lateS hi l D (0, 1)).1 / (lateS hi l D (0, 1)).2 : Nat) : Int)) = y1 at *
        generalize ((((lateS lo l D (0, 1)).1 + (lateS lo l D (0, 1)).2 - 1) / (lateS lo l D (0, 1)).2 : Nat) : Int) = y2 at *
        refine pi1 fn6 ?_
        (repeat' first | (refine Owe.same ?_; first | refine Owe.o ?_ | refine Owe.mk ?_ ?_) | (refine Fork.same ?_; (first | refine fkY ?_ | refine fkF ?_ | ((first | refine fkD ?_ ?_ | refine fkN ?_ ?_ | refine fkM ?_ ?_) <;> intro h))) | ((first | refine OpsL.same ?_ | refine OpsDL.same ?_); first | refine oK C10 rfl rfl rfl ?_ | refine oK c36 rfl rfl rfl ?_ | refine oK c35 rfl rfl rfl ?_ | refine oK c37 rfl rfl rfl ?_ | refine oK c38 rfl rfl rfl ?_ | refine oK c39 rfl rfl rfl ?_) | refine MvQ.stay ?_)
        ((first | refine OpsL.same ?_ | refine OpsDL.same ?_); first | refine pK cT rfl rfl ?_)
        (repeat' first | (refine Owe.same ?_; first | refine Owe.o ?_ | refine Owe.mk ?_ ?_) | (refine Fork.same ?_; (first | refine fkY ?_ | refine fkF ?_ | ((first | refine fkD ?_ ?_ | refine fkN ?_ ?_ | refine fkM ?_ ?_) <;> intro h))) | ((first | refine OpsL.same ?_ | refine OpsDL.same ?_); first | refine oK C10 rfl rfl rfl ?_) | refine MvQ.stay ?_)
        ((first | refine OpsL.same ?_ | refine OpsDL.same ?_); first | refine pK cD rfl rfl ?_)
        (repeat' first | (refine Owe.same ?_; first | refine Owe.o ?_ | refine Owe.mk ?_ ?_) | (refine Fork.same ?_; (first | refine fkY ?_ | refine fkF ?_ | ((first | refine fkD ?_ ?_ | refine fkN ?_ ?_ | refine fkM ?_ ?_) <;> intro h))) | ((first | refine OpsL.same ?_ | refine OpsDL.same ?_); first | refine oK c41 rfl rfl rfl ?_) | refine MvQ.stay ?_)
        (refine rqK rfl ?_; (repeat' first | exact rfl | (refine qS ?_; constructor)))
        all_goals first | rfl | simp
      · have eD : lsE l D 100000 = 2 := by rw [hE, unl, decide_eq_false hD]; rfl
        rw [tmS, eD, if_neg (by decide)] at c38
        rw [decide_eq_false hD] at cD
        refine pi1 fn6 ?_
        (repeat' first | (refine Owe.same ?_; first | refine Owe.o ?_ | refine Owe.mk ?_ ?_) | (refine Fork.same ?_; (first | refine fkY ?_ | refine fkF ?_ | ((first | refine fkD ?_ ?_ | refine fkN ?_ ?_ | refine fkM ?_ ?_) <;> intro h))) | ((first | refine OpsL.same ?_ | refine OpsDL.same ?_); first | refine oK C10 rfl rfl rfl ?_ | refine oK c36 rfl rfl rfl ?_ | refine oK c35 rfl rfl rfl ?_ | refine oK c37 rfl rfl rfl ?_ | refine oK c38 rfl rfl rfl ?_ | refine oK c39 rfl rfl rfl ?_) | refine MvQ.stay ?_)
        ((first | refine OpsL.same ?_ | refine OpsDL.same ?_); first | refine pK cT rfl rfl ?_)
        (repeat' first | (refine Owe.same ?_; first | refine Owe.o ?_ | refine Owe.mk ?_ ?_) | (refine Fork.same ?_; (first | refine fkY ?_ | refine fkF ?_ | ((first | refine fkD ?_ ?_ | refine fkN ?_ ?_ | refine fkM ?_ ?_) <;> intro h))) | ((first | refine OpsL.same ?_ | refine OpsDL.same ?_); first | refine oK C10 rfl rfl rfl ?_) | refine MvQ.stay ?_)
        ((first | refine OpsL.same ?_ | refine OpsDL.same ?_); first | refine pK cD rfl rfl ?_)
        (repeat' first | (refine Owe.same ?_; first | refine Owe.o ?_ | refine Owe.mk ?_ ?_) | (refine Fork.same ?_; (first | refine fkY ?_ | refine fkF ?_ | ((first | refine fkD ?_ ?_ | refine fkN ?_ ?_ | refine fkM ?_ ?_) <;> intro h))) | ((first | refine OpsL.same ?_ | refine OpsDL.same ?_); first | refine oK C10 rfl rfl rfl ?_) | refine MvQ.stay ?_)
        (refine rqK rfl ?_; (repeat' first | exact rfl | (refine qS ?_; constructor)))
        all_goals first | rfl | simp
  · have eE : ∀ n m, lsE l n m = (lysE l).2 := fun n m => fst_c h0
    rw [dpS, eE, if_neg h0] at c37
    rw [tmS, eE, if_neg h0] at c38
    generalize (lysE l).2 = e at *
    generalize (lysE l).1 = k at *
    refine pi1 fn6 ?_
    (repeat' first | (refine Owe.same ?_; first | refine Owe.o ?_ | refine Owe.mk ?_ ?_) | (refine Fork.same ?_; (first | refine fkY ?_ | refine fkF ?_ | ((first | refine fkD ?_ ?_ | refine fkN ?_ ?_ | refine fkM ?_ ?_) <;> intro h))) | ((first | refine OpsL.same ?_ | refine OpsDL.same ?_); first | refine oK C10 rfl rfl rfl ?_ | refine oK c36 rfl rfl rfl ?_ | refine oK c35 rfl rfl rfl ?_ | refine oK c37 rfl rfl rfl ?_ | refine oK c38 rfl rfl rfl ?_ | refine oK c39 rfl rfl rfl ?_) | refine MvQ.stay ?_)
    (refine rqK rfl ?_; (repeat' first | exact rfl | (refine qS ?_; constructor)))
    all_goals first | rfl | simp
end Go.Pw

namespace Go.Proofs.YtbgikbenhglmkaaGreat
open Go.ChangeShapes Go.WideShapes Go.ChangeAt Go.RowKit Go.Pw
theorem Tryz.own : ownKnob Tryz.prog.godebug = none := by kernel_rfl
theorem Tryz.laidOut : laidOutB Tryz.prog = true := by kernel_rfl
theorem shapes : shAll Tryz.prog [63, 3, 3] = some [(false, [.sl [.int .i64, .int .i64, .int .i64]]), (false, [.int .i64]), (false, [.int .i64])] := by kernel_rfl
theorem law (args : List V) (h : ArgOk [(false, [.sl [.int .i64, .int .i64, .int .i64]]), (false, [.int .i64]), (false, [.int .i64])] args) : PFD Tryz.prog 6 args (vbl true) := by
  match args, h with
  | [v0, v1, v2], ⟨h0, h1, h2, _⟩ =>
    obtain ⟨l0, r0, q0⟩ := arg_trs h0
    obtain ⟨l1, rfl, q1⟩ := arg_int h1
    obtain ⟨l2, rfl, q2⟩ := arg_int h2
    exact PFD.ri C6 (.cons r0 (.cons (RI.refl _) (.cons (RI.refl _) .nil)))
set_option maxRecDepth 100000 in
theorem lifted (os : Os) (started : os.Started) (H : Type) (enc : TypeId × Value → H) :
    ReturnsInHanded {} Tryz.checked os 6 .any (Rows.sonarDepthsSpec.pre6 enc Tryz.prog Tryz.f6 Rows.sonarDepthsRow.domain false) (Rows.sonarDepthsSpec.post enc Tryz.prog Tryz.f6 false true false false) := by
  refine returnsInHanded_of_change (C := Tryz.checked) Tryz.own started (by kernel_rfl) Tryz.func6
    (ChangeSpec.witness6 (enc := enc) (C := Tryz.checked) false ⟨#[], #[.slice none 0 0, .int .i64 0, .int .i64 0], []⟩ 8 (by kernel_rfl) (by kernel_rfl) (by kernel_rfl) (by kernel_rfl)) ?_
  intro W base args ds gs before hval0 hW hcnd _
  exact law_calls (P := Tryz.prog) (F := Tryz.f6) (tb := 4) Tryz.laidOut (by rw [Tryz.params6]; exact shapes) rfl (fun ds hl => by
    rw [Tryz.params6] at hl
    match ds, hl with
    | [d0, d1, d2], _ => rfl) (by kernel_rfl) Tryz.underlying4 law W base args ds gs before hval0 hW
theorem row_holds : Rows.SonarDepthsSaid :=
  OpenClaim.holds_of_wide 6 Tryz.f6 rfl rfl rfl rfl rfl rfl rfl ⟨rfl, rfl, rfl, rfl, rfl⟩ rfl rfl rfl rfl rfl (by kernel_rfl) Tryz.func6 (by kernel_rfl)
    (of_decide_eq_true (by kernel_rfl)) (by unfold Func.isWrapper; rw [if_neg (by decide +kernel)]; exact ⟨rfl, rfl⟩)
    (fun os started H enc _ => lifted os started H enc)
end Go.Proofs.YtbgikbenhglmkaaGreat
