/- Proved here at the end: the row named in the last theorem, on no condition. -/
import Derived.Test.YtkoohllimmkmoaaCableAgreedC
import Derived.Test.YtkoohllimmkmoaaRows
set_option linter.unusedSimpArgs false
set_option linter.unusedVariables false
namespace Go.Pw
set_option maxRecDepth 2000
open Go Go.Proofs A1 A2 A3 A4
theorem C67w {n b : Int} : (w64 n ∧ 0 < b ∧ Md b) → PFD Try.prog 67 [vi .i64 n, vi .i64 b] (vi .i64 (n % b)) := fun ⟨hn, hb, hb'⟩ => by
  have h5 := tmod_bd (n := n) hb
  simp only [w64] at hn
  refine pi1 fn67 ?_
  (repeat' first | (refine Owe.same ?_; first | refine Owe.o ?_ | refine Owe.mk ?_ ?_) | (refine Fork.same ?_; (first | refine fkD ?_ ?_ | refine fkN ?_ ?_ | refine fkM ?_ ?_) <;> intro h) | refine MvQ.stay ?_)
  · (refine rqK rfl ?_; (repeat' first | exact rfl | (refine qS ?_; constructor))); rw [← mod_eq hb, if_pos h]
  · (refine rqK rfl ?_; (repeat' first | exact rfl | (refine qS ?_; constructor))); rw [← mod_eq hb, if_neg h]
section
variable {x z : Int} {l : List Lk} {b b' : List Rg}
theorem pl_mono (hd : ∀ k, k < l.length → 0 ≤ (l.getD k (0, 0, 0)).2.2) (h : ∀ k, k < l.length → (b.getD k (0, 0)).1 ≤ (b'.getD k (0, 0)).1) : ∀ k, k ≤ l.length → (Ln.mk x z l b).pl k ≤ (Ln.mk x z l b').pl k
  | 0, _ => Int.le_refl _
  | k + 1, hk => by
    have := pl_mono hd h k (by omega)
    have := Int.mul_le_mul_of_nonneg_left (h k (by omega)) (hd k (by omega))
    show (Ln.mk x z l b).pl k + (l.getD k (0, 0, 0)).2.2 * (b.getD k (0, 0)).1 ≤ (Ln.mk x z l b').pl k + (l.getD k (0, 0, 0)).2.2 * (b'.getD k (0, 0)).1
    omega
theorem ph_mono (hd : ∀ k, k < l.length → 0 ≤ (l.getD k (0, 0, 0)).2.2) (h : ∀ k, k < l.length → (b.getD k (0, 0)).2 ≤ (b'.getD k (0, 0)).2) : ∀ k, k ≤ l.length → (Ln.mk x z l b).ph k ≤ (Ln.mk x z l b').ph k
  | 0, _ => Int.le_refl _
  | k + 1, hk => by
    have := ph_mono hd h k (by omega)
    have := Int.mul_le_mul_of_nonneg_left (h k (by omega)) (hd k (by omega))
    show (Ln.mk x z l b).ph k + (l.getD k (0, 0, 0)).2.2 * (b.getD k (0, 0)).2 ≤ (Ln.mk x z l b').ph k + (l.getD k (0, 0, 0)).2.2 * (b'.getD k (0, 0)).2
    omega
end
theorem sumI_le {f g : Nat → Int} : ∀ n : Nat, (∀ k, k < n → f k ≤ g k) → sumI f n ≤ sumI g n
  | 0, _ => Int.le_refl _
  | n + 1, h => by
    have h1 := sumI_le n (fun k hk => h k (by omega))
    have h2 := h n (by omega)
    show sumI f n + f n ≤ sumI g n + g n
    omega
theorem sq_abs {a m : Int} (h1 : -m ≤ a) (h2 : a ≤ m) : a * a ≤ m * m := by
  have h3 : 0 ≤ (m - a) * (m + a) := Int.mul_nonneg (by omega) (by omega)
  have h4 : (m - a) * (m + a) = m * m - a * a := by rw [Int.sub_mul, Int.mul_add, Int.mul_add, Int.mul_comm a m]; omega
  omega
/-- A longer pull makes no shorter link. -/
theorem lenF_mono {h z x y : Int} (hh : 1 ≤ h ∧ h ≤ 1000) (hz : 0 < z ∧ z ≤ 20000) (hx : -20000 ≤ x ∧ x ≤ 20000) (hy : -20000 ≤ y ∧ y ≤ 20000) (hxy : x * x ≤ y * y) : (lenF h z x).2 ≤ (lenF h z y).2 := by
  obtain ⟨_, _, b3, b4, b5, _, _, b8⟩ := len_bd hh hz hx
  obtain ⟨_, _, _, c4, c5, _, _, c8⟩ := len_bd hh hz hy
  have hs : sqF h z x ≤ sqF h z y := Int.mul_le_mul_of_nonneg_left (by omega) (sq_nonneg h)
  unfold lenF
  simp only [lnF] at *
  generalize sqF h z x = s at *
  generalize sqF h z y = t at *
  rw [Int.tdiv_eq_ediv_of_nonneg (by omega)] at *
  rw [Int.tdiv_eq_ediv_of_nonneg (by omega)] at *
  have hd : s / (z * z) ≤ t / (z * z) := Int.ediv_le_ediv b3.1 hs
  obtain ⟨q1, q2, q3⟩ := isq_spec (n := s / (z * z)) (by omega)
  obtain ⟨r1, r2, r3⟩ := isq_spec (n := t / (z * z)) (by omega)
  have e1 : s / (z * z) * (z * z) ≤ s := Int.ediv_mul_le _ (by omega)
  have e2 : t / (z * z) * (z * z) ≤ t := Int.ediv_mul_le _ (by omega)
  generalize isq (s / (z * z)) = p at *
  generalize isq (t / (z * z)) = q at *
  have hpq : p ≤ q := by
    rcases Int.lt_or_le q p with h1 | h1
    · have := Int.mul_le_mul (show q + 1 ≤ p by omega) (show q + 1 ≤ p by omega) (by omega) q1; omega
    · exact h1
  rcases Int.lt_or_eq_of_le hpq with h1 | rfl
  · split <;> split <;> omega
  · have e3 := Int.mul_le_mul_of_nonneg_right q2 (show 0 ≤ z * z by omega)
    split
    · split <;> omega
    · rename_i h2
      rw [if_neg (by omega)]
      omega
theorem lenF_le {h z x : Int} : (lenF h z x).1 ≤ (lenF h z x).2 := by
  unfold lenF; simp only; split <;> omega
end Go.Pw

set_option linter.unusedSimpArgs false
set_option linter.unusedVariables false
namespace Go.Pw
set_option maxRecDepth 2000
open Go Go.Proofs A1 A2 A3 A4
theorem cur_ok {n : Nat} {c : List Int} (h1 : c.length = n) (h2 : ∀ i, i < n → curOk (c.getD i 0)) : curE n c = 0 := by
  rw [curE, if_pos h1, eachE_ok]
  intro a ha
  obtain ⟨i, hi, rfl⟩ := List.getElem_of_mem ha
  have := h2 i (by omega)
  rw [List.getD_eq_getElem?_getD, List.getElem?_eq_getElem hi] at this
  rw [curErr, unl, unb_ok (by decide), decide_eq_true_eq]
  exact this
theorem box_ok {n : Nat} {b : List Rg} (h1 : b.length = n) (h2 : ∀ i, i < n → curOk (b.getD i (0, 0)).1 ∧ curOk (b.getD i (0, 0)).2 ∧ (b.getD i (0, 0)).1 ≤ (b.getD i (0, 0)).2) : (boxE n b).2 = 0 := by
  rw [boxE, if_pos h1, eachE_ok]
  intro a ha
  obtain ⟨i, hi, rfl⟩ := List.getElem_of_mem ha
  have := h2 i (by omega)
  rw [List.getD_eq_getElem?_getD, List.getElem?_eq_getElem hi] at this
  rw [rgErr, fstE_ok]
  simp only [List.mem_cons, List.not_mem_nil, or_false, forall_eq_or_imp, forall_eq, unl, unb_ok (show (2 : Int) ≠ 0 by decide), unb_ok (show (9 : Int) ≠ 0 by decide), decide_eq_true_eq]
  exact ⟨⟨this.1, this.2.1⟩, this.2.2⟩
theorem lb_ok {x z : Int} {l : List Lk} {b : List Rg} (h0 : LnOk x z l) (h : (boxE l.length b).2 = 0) : (lbE x z l b).2 = 0 := by
  unfold lbE; rw [if_pos (lineE_ok.2 h0)]; exact h
theorem opn_of {x z : Int} {l : List Lk} {c : List Int} (h0 : LnOk x z l) (h : curE l.length c = 0) : (opn x z l c).2 = 0 ∧ (opn x z l c).1 = opL x z l c ∧ (opL x z l c).Ok := by
  have h1 : (opn x z l c).2 = 0 := by rw [opn_err, if_pos (lineE_ok.2 h0)]; exact h
  have h2 := opn_ok h1
  refine ⟨h1, h2.1, ?_⟩
  have := h2.2
  rw [h2.1] at this
  exact this
/-- Currents in a box within a box. -/
structure Within3 (l : List Lk) (b inn : List Rg) (c : List Int) : Prop where
  lc : c.length = l.length
  li : inn.length = l.length
  h : ∀ k, k < l.length → (b.getD k (0, 0)).1 ≤ (inn.getD k (0, 0)).1 ∧ (inn.getD k (0, 0)).1 ≤ c.getD k 0 ∧ c.getD k 0 ≤ (inn.getD k (0, 0)).2 ∧ (inn.getD k (0, 0)).2 ≤ (b.getD k (0, 0)).2
section
variable {x z : Int} {l : List Lk} {b inn : List Rg} {c : List Int}
theorem Within3.errs (h : Within3 l b inn c) (hL : (Ln.mk x z l b).Ok) : curE l.length c = 0 ∧ (boxE l.length inn).2 = 0 := by
  have hr : ∀ k, k < l.length → (-50 ≤ (b.getD k (0, 0)).1 ∧ (b.getD k (0, 0)).1 ≤ 50) ∧ (-50 ≤ (b.getD k (0, 0)).2 ∧ (b.getD k (0, 0)).2 ≤ 50) ∧ (b.getD k (0, 0)).1 ≤ (b.getD k (0, 0)).2 := fun k hk => hL.rg hk
  exact ⟨cur_ok h.lc fun i hi => by have := h.h i hi; have := hr i hi; simp only [curOk]; omega,
    box_ok h.li fun i hi => by have := h.h i hi; have := hr i hi; simp only [curOk]; omega⟩
theorem Within3.ord (h : Within3 l b inn c) (hL : (Ln.mk x z l b).Ok) {k : Nat} (hk : k ≤ l.length) :
    (Ln.mk x z l b).pl k ≤ (Ln.mk x z l inn).pl k ∧ (Ln.mk x z l inn).pl k ≤ (opL x z l c).pl k ∧ (opL x z l c).pl k ≤ (Ln.mk x z l inn).ph k ∧ (Ln.mk x z l inn).ph k ≤ (Ln.mk x z l b).ph k := by
  have hd : ∀ k, k < l.length → 0 ≤ (l.getD k (0, 0, 0)).2.2 := fun k hk => (hL.lk hk).2.2.1
  have e : ∀ k, k < l.length → ((c.map dup).getD k (0, 0)) = (c.getD k 0, c.getD k 0) := fun k hk => dup_get (by rw [h.lc]; exact hk)
  refine ⟨pl_mono hd (fun k hk => (h.h k hk).1) k hk, pl_mono hd (fun k hk => by rw [e k hk]; exact (h.h k hk).2.1) k hk, ?_, ph_mono hd (fun k hk => (h.h k hk).2.2.2) k hk⟩
  rw [← opL_ph h.lc k hk]
  exact ph_mono hd (fun k hk => by rw [e k hk]; exact (h.h k hk).2.2.1) k hk
theorem ceil_mono {a b c : Int} (hc : 0 < c) (h : a ≤ b) : ceilI a c ≤ ceilI b c := by
  have := Int.ediv_le_ediv hc (show -b ≤ -a by omega)
  simp only [ceilI]; omega
/-- The laybacks and the lengths. -/
theorem Within3.all (h : Within3 l b inn c) (hT : (Ln.mk x z l b).Tight) :
    (laybk ⟨x, z, l, b⟩).1 ≤ (laybk ⟨x, z, l, inn⟩).1 ∧ (laybk ⟨x, z, l, inn⟩).2 ≤ (laybk ⟨x, z, l, b⟩).2 ∧ (laybk ⟨x, z, l, inn⟩).1 ≤ (laybk (opL x z l c)).1 ∧ (laybk (opL x z l c)).2 ≤ (laybk ⟨x, z, l, inn⟩).2 ∧
    (lenL lenF (opL x z l c)).2 ≤ sumI (enF lenF ⟨x, z, l, b⟩) l.length ∧ (lenL lenF (opL x z l c)).1 ≤ (lenL lenF (opL x z l c)).2 := by
  have hL := hT.toOk
  have hh : ∀ k, k < l.length → 1 ≤ (l.getD k (0, 0, 0)).1 ∧ (l.getD k (0, 0, 0)).1 ≤ 1000 := fun k hk => (hL.lk hk).1
  have e1 : ∀ k, (Ln.mk x z l inn).pz k = (Ln.mk x z l b).pz k := fun k => (opL_pz k).trans (opL_pz k).symm
  have e2 : ∀ k, (opL x z l c).pz k = (Ln.mk x z l b).pz k := fun k => (opL_pz k).trans (opL_pz k).symm
  have hz : ∀ k, k < l.length → 0 < (Ln.mk x z l b).pz (k + 1) ∧ (Ln.mk x z l b).pz (k + 1) ≤ 20000 := fun k hk => hT.z hk
  have ho := fun k (hk : k < l.length) => h.ord hL (k := k + 1) (by omega)
  have hbd : ∀ k, k < l.length → _ := fun k hk => hL.bd (k + 1) hk
  refine ⟨sumI_le _ fun k hk => ?_, sumI_le _ fun k hk => ?_, sumI_le _ fun k hk => ?_, sumI_le _ fun k hk => ?_, sumI_le _ fun k hk => ?_, sumI_le _ fun k hk => lenF_le⟩
  · show (l.getD k (0, 0, 0)).1 * _ / _ ≤ (l.getD k (0, 0, 0)).1 * _ / _
    rw [e1]
    exact Int.ediv_le_ediv (hz k hk).1 (Int.mul_le_mul_of_nonneg_left (ho k hk).1 (by have := hh k hk; omega))
  · show ceilI ((l.getD k (0, 0, 0)).1 * _) _ ≤ ceilI ((l.getD k (0, 0, 0)).1 * _) _
    rw [e1]
    exact ceil_mono (hz k hk).1 (Int.mul_le_mul_of_nonneg_left (ho k hk).2.2.2 (by have := hh k hk; omega))
  · show (l.getD k (0, 0, 0)).1 * _ / _ ≤ (l.getD k (0, 0, 0)).1 * _ / _
    rw [e1, e2]
    exact Int.ediv_le_ediv (hz k hk).1 (Int.mul_le_mul_of_nonneg_left (ho k hk).2.1 (by have := hh k hk; omega))
  · show ceilI ((l.getD k (0, 0, 0)).1 * (opL x z l c).ph (k + 1)) _ ≤ ceilI ((l.getD k (0, 0, 0)).1 * _) _
    rw [e1, e2, opL_ph h.lc (k + 1) hk]
    exact ceil_mono (hz k hk).1 (Int.mul_le_mul_of_nonneg_left (ho k hk).2.2.1 (by have := hh k hk; omega))
  · show (lenF (l.getD k (0, 0, 0)).1 ((opL x z l c).pz (k + 1)) ((opL x z l c).pl (k + 1))).2 ≤ (lenF (l.getD k (0, 0, 0)).1 ((Ln.mk x z l b).pz (k + 1)) (max (-(Ln.mk x z l b).pl (k + 1)) ((Ln.mk x z l b).ph (k + 1)))).2
    rw [e2]
    have h1 := ho k hk
    have h2 := hbd k hk
    exact lenF_mono (hh k hk) (hz k hk) (by omega) (by omega) (sq_abs (by omega) (by omega))
end
end Go.Pw

set_option linter.unusedSimpArgs false
set_option linter.unusedVariables false
namespace Go.Pw
set_option maxRecDepth 2000
open Go Go.Proofs A1 A2 A3 A4
theorem w64_j {n : Int} (h : IntKind.has .i64 n = true) : w64 n := by
  simp only [IntKind.has, IntKind.min, IntKind.max, IntKind.signed, IntKind.bits, Bool.and_eq_true, decide_eq_true_eq] at h
  simp at h
  exact ⟨by omega, by omega⟩
theorem w64s_of {l : List Int} (h : ∀ a ∈ l, IntKind.has .i64 a = true) : ∀ i, i < l.length → w64 (l.getD i 0) := fun _ hi => w64_j (h _ (getD_mem 0 hi))
/-- By how much each current is above the least one. -/
def kfI (ps : List Int) (b : List Rg) (i : Nat) : Int := if 0 < ps.length then ps.getD ((i : Int).tmod ps.length).toNat 0 % ((b.getD i (0, 0)).2 - (b.getD i (0, 0)).1 + 1) else 0
abbrev cuF (ps : List Int) (b : List Rg) (i : Nat) : Int := (b.getD i (0, 0)).1 + kfI ps b i
abbrev inF (ps : List Int) (b : List Rg) (i : Nat) : Rg := (cuF ps b i - (kfI ps b i).tdiv 2, cuF ps b i)
theorem kfI_bd {ps : List Int} {b : List Rg} {i : Nat} (h : (b.getD i (0, 0)).1 ≤ (b.getD i (0, 0)).2) : 0 ≤ kfI ps b i ∧ kfI ps b i ≤ (b.getD i (0, 0)).2 - (b.getD i (0, 0)).1 := by
  unfold kfI
  split
  · have h1 := Int.emod_nonneg (ps.getD ((i : Int).tmod ps.length).toNat 0) (show (b.getD i (0, 0)).2 - (b.getD i (0, 0)).1 + 1 ≠ 0 by omega)
    have h2 := Int.emod_lt_of_pos (ps.getD ((i : Int).tmod ps.length).toNat 0) (show 0 < (b.getD i (0, 0)).2 - (b.getD i (0, 0)).1 + 1 by omega)
    omega
  · omega
theorem within_of {x z : Int} {l : List Lk} {ps : List Int} {b : List Rg} (hL : (Ln.mk x z l b).Ok) : Within3 l b (accL (inF ps b) b.length) (accL (cuF ps b) b.length) := by
  have hb : b.length = l.length := hL.b
  refine ⟨by rw [accL_len]; exact hb, by rw [accL_len]; exact hb, fun k hk => ?_⟩
  have h1 : (b.getD k (0, 0)).1 ≤ (b.getD k (0, 0)).2 := (hL.rg hk).2.2
  have h2 := kfI_bd (ps := ps) h1
  rw [accL_get _ (by omega), accL_get _ (by omega)]
  simp only [inF, cuF]
  rw [Int.tdiv_eq_ediv_of_nonneg h2.1]
  omega
end Go.Pw

set_option linter.unusedSimpArgs false
set_option linter.unusedVariables false
namespace Go.Pw
set_option maxRecDepth 2000
open Go Go.Proofs A1 A2 A3 A4
/-- By how much two ranges are apart. -/
abbrev dsI (p q : Rg) : Int := max (p.1 - q.2) (q.1 - p.2)
theorem dsI_comm (p q : Rg) : dsI p q = dsI q p := by simp only [dsI]; omega
abbrev rgB (p : Rg) : Prop := (-100000 ≤ p.1 ∧ p.1 ≤ 100000) ∧ -100000 ≤ p.2 ∧ p.2 ≤ 100000
theorem C151 {p q : Rg} : (rgB p ∧ rgB q) → PFD Try.prog 151 [.agg [int p.1, int p.2], .agg [int q.1, int q.2]] (vi .i64 (max 0 (dsI p q))) := fun h => by
  refine pi1 fn151 ?_
  (repeat' first | (refine Owe.same ?_; first | refine Owe.o ?_ | refine Owe.mk ?_ ?_) | (refine Fork.same ?_; (first | refine fkD ?_ ?_ | refine fkN ?_ ?_ | refine fkM ?_ ?_) <;> intro h) | refine MvQ.stay ?_)
  (refine rqK rfl ?_; (repeat' first | exact rfl | (refine qS ?_; constructor)))
  simp only [dsI]; omega
/-- The error of a reading, of readings. -/
abbrev rdE (n : Nat) (o : Lk) : Int := fstE [unl (0 ≤ o.1 ∧ o.1 ≤ (n : Int) - 1) 6, unl ((-20000 ≤ o.2.1 ∧ o.2.1 ≤ 20000) ∧ -20000 ≤ o.2.2 ∧ o.2.2 ≤ 20000) 2, unl (o.2.1 ≤ o.2.2) 9]
def rdsE (n : Nat) (r : List Lk) : Int := if r.length ≤ 12 then (eachE (rdE n) 0 r).2 else 8
theorem rdE_eq (n : Nat) (o : Lk) : rdE n o = if 0 ≤ o.1 ∧ o.1 ≤ (n : Int) - 1 then (if (-20000 ≤ o.2.1 ∧ o.2.1 ≤ 20000) ∧ -20000 ≤ o.2.2 ∧ o.2.2 ≤ 20000 then (if o.2.1 ≤ o.2.2 then 0 else 9) else 2) else 6 := by
  simp only [rdE, fstE, unl_eq]
  split
  · rw [if_pos rfl]; split
    · rw [if_pos rfl]; split <;> simp
    · simp
  · simp
abbrev rdOk (n : Nat) (o : Lk) : Prop := (0 ≤ o.1 ∧ o.1 ≤ (n : Int) - 1) ∧ ((-20000 ≤ o.2.1 ∧ o.2.1 ≤ 20000) ∧ -20000 ≤ o.2.2 ∧ o.2.2 ≤ 20000) ∧ o.2.1 ≤ o.2.2
theorem rdE_ok {n : Nat} {o : Lk} : rdE n o = 0 ↔ rdOk n o := by
  rw [rdE_eq]
  constructor
  · intro h
    split at h
    · split at h
      · split at h
        · exact ⟨by assumption, by assumption, by assumption⟩
        · cases h
      · cases h
    · cases h
  · rintro ⟨h1, h2, h3⟩
    rw [if_pos h1, if_pos h2, if_pos h3]
theorem rdsE_ok {n : Nat} {r : List Lk} : rdsE n r = 0 ↔ r.length ≤ 12 ∧ ∀ i, i < r.length → rdOk n (r.getD i (0, 0, 0)) := by
  unfold rdsE
  split
  · rename_i h
    rw [eachE_ok]
    constructor
    · intro h1
      exact ⟨h, fun i hi => rdE_ok.1 (h1 _ (getD_mem _ hi))⟩
    · rintro ⟨_, h1⟩ o ho
      obtain ⟨i, hi, rfl⟩ := List.getElem_of_mem ho
      have := h1 i hi
      rw [List.getD_eq_getElem?_getD, List.getElem?_eq_getElem hi] at this
      exact rdE_ok.2 this
  · rename_i h
    exact ⟨fun h1 => (by cases h1), fun h1 => absurd h1.1 h⟩
theorem C81 {x z : Int} {l : List Lk} {r : List Lk} : (l.length ≤ 1000000 ∧ r.length ≤ 1000000) → PFD Try.prog 81 [.agg [int x, int z, trs l], .c (trs r)] (vi .i64 (rdsE l.length r)) := fun hl => by
  by_cases h12 : r.length ≤ 12
  · rw [rdsE, if_pos h12]
    refine pi1 fn81 ?_
    (repeat' first | (refine Owe.same ?_; first | refine Owe.o ?_ | refine Owe.mk ?_ ?_) | (refine Fork.same ?_; (first | refine fkD ?_ ?_ | refine fkN ?_ ?_ | refine fkM ?_ ?_) <;> intro h) | ((first | refine OpsL.same ?_ | refine OpsDL.same ?_); first | refine oK C16 rfl rfl rfl ?_) | refine MvQ.stay ?_)
    · exfalso; omega
    refine Sat.lp (fun k : Nat => ⟨[(6, vi .i64 k), (1, .c (trs r)), (5, vi .i64 20000), (2, .c (.bp 0 0))], [(0, .box [int x, int z, trs l])], 1⟩)
      (fun k => k ≤ r.length ∧ eachE (rdE l.length) 0 r = eachE (rdE l.length) k (r.drop k)) (fun k => r.length - k) 0 [0] ⟨Nat.zero_le _, rfl⟩ ?_ ?_
    · (refine qis ?_ ?_ <;> (repeat' first | exact rfl | (refine qS ?_; constructor)))
    · intro k hk
      refine Fork.dec (fun hlt => ?_) (fun hlt => ?_)
      · have hlt : k < r.length := by omega
        have e2 := eachE_drop (rdE l.length) (0, 0, 0) r k hlt
        rw [← hk.2] at e2
        have cA := C16 (n := (r.getD k (0, 0, 0)).1) (lo := 0) (hi := (l.length : Int) - 1)
        have cB := C16 (n := (r.getD k (0, 0, 0)).2.1) (lo := -20000) (hi := 20000)
        have cC := C16 (n := (r.getD k (0, 0, 0)).2.2) (lo := -20000) (hi := 20000)
        have er := rdE_eq l.length (r.getD k (0, 0, 0))
        by_cases hA : 0 ≤ (r.getD k (0, 0, 0)).1 ∧ (r.getD k (0, 0, 0)).1 ≤ (l.length : Int) - 1
        · rw [decide_eq_true hA] at cA
          rw [if_pos hA] at er
          by_cases hB : -20000 ≤ (r.getD k (0, 0, 0)).2.1 ∧ (r.getD k (0, 0, 0)).2.1 ≤ 20000
          · rw [decide_eq_true hB] at cB
            by_cases hC : -20000 ≤ (r.getD k (0, 0, 0)).2.2 ∧ (r.getD k (0, 0, 0)).2.2 ≤ 20000
            · rw [decide_eq_true hC] at cC
              rw [if_pos ⟨hB, hC⟩] at er
              (repeat' first | (refine Owe.same ?_; first | refine Owe.o ?_ | refine Owe.mk ?_ ?_) | (refine Fork.same ?_; (first | refine fkY ?_ | refine fkF ?_ | ((first | refine fkD ?_ ?_ | refine fkN ?_ ?_ | refine fkM ?_ ?_) <;> intro h))) | ((first | refine OpsL.same ?_ | refine OpsDL.same ?_); first | refine oK cA rfl rfl rfl ?_ | refine oK cB rfl rfl rfl ?_ | refine oK cC rfl rfl rfl ?_) | refine MvQ.stay ?_)
              · have h : (r.getD k (0, 0, 0)).2.2 < (r.getD k (0, 0, 0)).2.1 := h
                rw [if_neg (by omega)] at er
                rw [er, if_neg (by decide)] at e2
                (refine rqK rfl ?_; (repeat' first | exact rfl | (refine qS ?_; constructor)))
                rw [e2]
              · have h : ¬ (r.getD k (0, 0, 0)).2.2 < (r.getD k (0, 0, 0)).2.1 := h
                rw [if_pos (by omega)] at er
                rw [if_pos er] at e2
                refine again (k + 1) [0] ⟨hlt, e2⟩ (by omega) ?_
                (refine qis ?_ ?_ <;> (repeat' first | exact rfl | (refine qS ?_; constructor)))
            · rw [decide_eq_false hC] at cC
              rw [if_neg (fun h => hC h.2)] at er
              rw [er, if_neg (by decide)] at e2
              (repeat' first | (refine Owe.same ?_; first | refine Owe.o ?_ | refine Owe.mk ?_ ?_) | (refine Fork.same ?_; (first | refine fkY ?_ | refine fkF ?_ | ((first | refine fkD ?_ ?_ | refine fkN ?_ ?_ | refine fkM ?_ ?_) <;> intro h))) | ((first | refine OpsL.same ?_ | refine OpsDL.same ?_); first | refine oK cA rfl rfl rfl ?_ | refine oK cB rfl rfl rfl ?_ | refine oK cC rfl rfl rfl ?_) | refine MvQ.stay ?_)
              (refine rqK rfl ?_; (repeat' first | exact rfl | (refine qS ?_; constructor)))
              rw [e2]
          · rw [decide_eq_false hB] at cB
            rw [if_neg (fun h => hB h.1)] at er
            rw [er, if_neg (by decide)] at e2
            (repeat' first | (refine Owe.same ?_; first | refine Owe.o ?_ | refine Owe.mk ?_ ?_) | (refine Fork.same ?_; (first | refine fkY ?_ | refine fkF ?_ | ((first | refine fkD ?_ ?_ | refine fkN ?_ ?_ | refine fkM ?_ ?_) <;> intro h))) | ((first | refine OpsL.same ?_ | refine OpsDL.same ?_); first | refine oK cA rfl rfl rfl ?_ | refine oK cB rfl rfl rfl ?_ | refine oK cC rfl rfl rfl ?_) | refine MvQ.stay ?_)
            (refine rqK rfl ?_; (repeat' first | exact rfl | (refine qS ?_; constructor)))
            rw [e2]
        · rw [decide_eq_false hA] at cA
          rw [if_neg hA] at er
          rw [er, if_neg (by decide)] at e2
          (repeat' first | (refine Owe.same ?_; first | refine Owe.o ?_ | refine Owe.mk ?_ ?_) | (refine Fork.same ?_; (first | refine fkY ?_ | refine fkF ?_ | ((first | refine fkD ?_ ?_ | refine fkN ?_ ?_ | refine fkM ?_ ?_) <;> intro h))) | ((first | refine OpsL.same ?_ | refine OpsDL.same ?_); first | refine oK cA rfl rfl rfl ?_) | refine MvQ.stay ?_)
          (refine rqK rfl ?_; (repeat' first | exact rfl | (refine qS ?_; constructor)))
          rw [e2]
      · (repeat' first | (refine Owe.same ?_; first | refine Owe.o ?_ | refine Owe.mk ?_ ?_) | (refine Fork.same ?_; (first | refine fkD ?_ ?_ | refine fkN ?_ ?_ | refine fkM ?_ ?_) <;> intro h) | refine MvQ.stay ?_)
        rw [hk.2, List.drop_of_length_le (by omega)]
        (refine rqK rfl ?_; (repeat' first | exact rfl | (refine qS ?_; constructor)))
  · rw [rdsE, if_neg h12]
    refine pi1 fn81 ?_
    (repeat' first | (refine Owe.same ?_; first | refine Owe.o ?_ | refine Owe.mk ?_ ?_) | (refine Fork.same ?_; (first | refine fkD ?_ ?_ | refine fkN ?_ ?_ | refine fkM ?_ ?_) <;> intro h) | ((first | refine OpsL.same ?_ | refine OpsDL.same ?_); first | refine oK C16 rfl rfl rfl ?_) | refine MvQ.stay ?_)
    all_goals first | (exfalso; omega) | (refine rqK rfl ?_; (repeat' first | exact rfl | (refine qS ?_; constructor)))
abbrev rdI (L : Ln) (o : Lk) : Rg := plF L o.1.toNat
abbrev ap1 (L : Ln) (o : Lk) : Int := dsI o.2 (rdI L o)
/-- A reading, carried on to a later link. -/
abbrev wlk (L : Ln) (a b : Lk) : Rg := (a.2.1 + (L.pl (b.1.toNat + 1) - L.pl (a.1.toNat + 1)), a.2.2 + (L.ph (b.1.toNat + 1) - L.ph (a.1.toNat + 1)))
abbrev ap2' (L : Ln) (a b : Lk) : Int := dsI b.2 (wlk L a b)
abbrev ap2 (L : Ln) (a b : Lk) : Int := if b.1 < a.1 then ap2' L b a else ap2' L a b
theorem C132 {L : Ln} {o : Lk} : (L.Ok ∧ rdOk L.l.length o) → PFD Try.prog 132 [.agg L.v, .agg [int o.1, int o.2.1, int o.2.2]] (vi .i64 (max 0 (ap1 L o))) := fun ⟨hL, ho⟩ => by
  have hb := hL.bd (o.1.toNat + 1) (by omega)
  have c1 := C151 (p := o.2) (q := rdI L o) ⟨⟨by omega, by omega⟩, by simp only [rdI, plF]; omega⟩
  simp only [rdI, plF] at c1
  show PFD Try.prog 132 [.agg L.v, .agg [int o.1, int o.2.1, int o.2.2]] (vi .i64 (max 0 (dsI o.2 (L.pl (o.1.toNat + 1), L.ph (o.1.toNat + 1)))))
  generalize max 0 (dsI o.2 (L.pl (o.1.toNat + 1), L.ph (o.1.toNat + 1))) = W at *
  refine pi1 fn132 ?_
  (repeat' first | (refine Owe.same ?_; first | refine Owe.o ?_ | refine Owe.mk ?_ ?_) | (refine Fork.same ?_; (first | refine fkD ?_ ?_ | refine fkN ?_ ?_ | refine fkM ?_ ?_) <;> intro h) | refine MvQ.stay ?_)
  refine Ops.cs rfl rfl (CallS.of fn113 rfl ?_); refine Sat.keep [4, 3, 8] ?_; refine Sat.rf rfl rfl (CallS.of fn141 rfl ?_); (repeat' first | (refine Owe.same ?_; first | refine Owe.o ?_ | refine Owe.mk ?_ ?_) | (refine Fork.same ?_; (first | refine fkD ?_ ?_ | refine fkN ?_ ?_ | refine fkM ?_ ?_) <;> intro h) | refine MvQ.stay ?_)
  refine Sat.lp (fun k : Nat => ⟨[(24, vi .i64 k), (23, vi .i64 L.l.length), (22, .c (trs L.l)), (3, .c (.bp 5 0)), (1, .c (.bp 3 0)), (0, .c (.yd 4))], [(5, .box [int (L.pl k), int (L.ph k), int (L.pz k), int (L.hh k)]), (4, .lp [(4, .c (.bp 2 0)), (3, .c (.bp 1 0)), (8, .c (.fn 141 [3]))] .ready none (RR Try.prog 20 [9, 10] ra132 rb132)), (3, .box L.v), (2, .box [int 0]), (1, .box [int o.1, int o.2.1, int o.2.2])], 6⟩)
    (fun k => k ≤ o.1.toNat) (fun k => L.l.length - k) 0 [5] (Nat.zero_le _) ?_ ?_
  · (refine qis ?_ ?_ <;> (repeat' first | exact rfl | (refine qS ?_; constructor)))
  · intro k hk
    refine Fork.dec (fun hlt => ?_) (fun hlt => ?_)
    · have hlt : k < L.l.length := by omega
      have hrd := hL.round hlt
      by_cases he : (k : Int) = o.1
      · have hk2 : o.1.toNat = k := by omega
        rw [hk2] at c1
        (repeat' first | (refine Owe.same ?_; first | refine Owe.o ?_ | refine Owe.mk ?_ ?_) | (refine Fork.same ?_; (first | refine fkY ?_ | refine fkF ?_ | ((first | refine fkD ?_ ?_ | refine fkN ?_ ?_ | refine fkM ?_ ?_) <;> intro h))) | ((first | refine OpsL.same ?_ | refine OpsDL.same ?_); first | refine oK c1 rfl rfl rfl ?_) | refine MvQ.stay ?_)
        refine Ops.yd rfl rfl rfl rfl rfl ?_
        (repeat' first | (refine Owe.same ?_; first | refine Owe.o ?_ | refine Owe.mk ?_ ?_) | (refine Fork.same ?_; (first | refine fkY ?_ | refine fkF ?_ | ((first | refine fkD ?_ ?_ | refine fkN ?_ ?_ | refine fkM ?_ ?_) <;> intro h))) | ((first | refine OpsL.same ?_ | refine OpsDL.same ?_); first | refine oK c1 rfl rfl rfl ?_) | refine MvQ.stay ?_)
        refine And.intro rfl (Exists.intro _ (And.intro rfl ?_))
        (repeat' first | (refine Owe.same ?_; first | refine Owe.o ?_ | refine Owe.mk ?_ ?_) | (refine Fork.same ?_; (first | refine fkY ?_ | refine fkF ?_ | ((first | refine fkD ?_ ?_ | refine fkN ?_ ?_ | refine fkM ?_ ?_) <;> intro h))) | ((first | refine OpsL.same ?_ | refine OpsDL.same ?_); first | refine oK c1 rfl rfl rfl ?_) | refine MvQ.stay ?_)
        refine Exists.intro _ (Exists.intro _ (Exists.intro _ (And.intro rfl ?_)))
        (repeat' first | (refine Owe.same ?_; first | refine Owe.o ?_ | refine Owe.mk ?_ ?_) | (refine Fork.same ?_; (first | refine fkD ?_ ?_ | refine fkN ?_ ?_ | refine fkM ?_ ?_) <;> intro h) | refine MvQ.stay ?_)
        (refine rqK rfl ?_; (repeat' first | exact rfl | (refine qS ?_; constructor)))
      · (repeat' first | (refine Owe.same ?_; first | refine Owe.o ?_ | refine Owe.mk ?_ ?_) | (refine Fork.same ?_; (first | refine fkD ?_ ?_ | refine fkN ?_ ?_ | refine fkM ?_ ?_) <;> intro h) | refine MvQ.stay ?_)
        refine Ops.yd rfl rfl rfl rfl rfl ?_
        (repeat' first | (refine Owe.same ?_; first | refine Owe.o ?_ | refine Owe.mk ?_ ?_) | (refine Fork.same ?_; (first | refine fkD ?_ ?_ | refine fkN ?_ ?_ | refine fkM ?_ ?_) <;> intro h) | refine MvQ.stay ?_)
        refine And.intro rfl (Exists.intro _ (And.intro rfl ?_))
        (repeat' first | (refine Owe.same ?_; first | refine Owe.o ?_ | refine Owe.mk ?_ ?_) | (refine Fork.same ?_; (first | refine fkY ?_ | refine fkF ?_ | ((first | refine fkD ?_ ?_ | refine fkN ?_ ?_ | refine fkM ?_ ?_) <;> intro h))) | ((first | refine OpsL.same ?_ | refine OpsDL.same ?_); first | refine oK c1 rfl rfl rfl ?_) | refine MvQ.stay ?_)
        refine Exists.intro _ (Exists.intro _ (Exists.intro _ (And.intro rfl ?_)))
        (repeat' first | (refine Owe.same ?_; first | refine Owe.o ?_ | refine Owe.mk ?_ ?_) | (refine Fork.same ?_; (first | refine fkD ?_ ?_ | refine fkN ?_ ?_ | refine fkM ?_ ?_) <;> intro h) | refine MvQ.stay ?_)
        refine again (k + 1) [5] (by omega) (by omega) ?_
        (refine qis ?_ ?_ <;> (repeat' first | exact rfl | (refine qS ?_; constructor)))
    · exfalso; omega
theorem C133 {L : Ln} {a b : Lk} : (L.Ok ∧ rdOk L.l.length a ∧ rdOk L.l.length b) → PFD Try.prog 133 [.agg L.v, .agg [int a.1, int a.2.1, int a.2.2], .agg [int b.1, int b.2.1, int b.2.2]] (vi .i64 (max 0 (ap2 L a b))) := fun ⟨hL, ha, hb⟩ => by
  obtain ⟨a1, al, ah⟩ := a
  obtain ⟨b1, bl, bh⟩ := b
  obtain ⟨ia, rfl⟩ : ∃ n : Nat, a1 = n := ⟨a1.toNat, by have := ha.1; simp only at this; omega⟩
  obtain ⟨ib, rfl⟩ : ∃ n : Nat, b1 = n := ⟨b1.toNat, by have := hb.1; simp only at this; omega⟩
  simp only [rdOk] at ha hb
  have hLn := hL.k.n
  by_cases h : (ib : Int) < ia
  · rw [show ap2 L ((ia : Int), al, ah) ((ib : Int), bl, bh) = dsI (al, ah) (bl + (L.pl (ia + 1) - L.pl (ib + 1)), bh + (L.ph (ia + 1) - L.ph (ib + 1))) from if_pos h]
    have hA := hL.bd (ib + 1) (by omega)
    have hB := hL.bd (ia + 1) (by omega)
    have c1 := C151 (p := (bl + (L.pl (ia + 1) - L.pl (ib + 1)), bh + (L.ph (ia + 1) - L.ph (ib + 1)))) (q := (al, ah)) ⟨⟨by omega, by omega⟩, ⟨by omega, by omega⟩⟩
    rw [dsI_comm] at c1
    generalize max 0 (dsI (al, ah) (bl + (L.pl (ia + 1) - L.pl (ib + 1)), bh + (L.ph (ia + 1) - L.ph (ib + 1)))) = W at *
    change PFD Try.prog 133 [.agg L.v, .agg [int (ia : Int), int al, int ah], .agg [int (ib : Int), int bl, int bh]] _
    refine pi1 fn133 ?_
    (repeat' first | (refine Owe.same ?_; first | refine Owe.o ?_ | refine Owe.mk ?_ ?_) | (refine Fork.same ?_; (first | refine fkY ?_ | refine fkF ?_ | ((first | refine fkD ?_ ?_ | refine fkN ?_ ?_ | refine fkM ?_ ?_) <;> intro h))) | ((first | refine OpsL.same ?_ | refine OpsDL.same ?_); first | refine oK c1 rfl rfl rfl ?_) | refine MvQ.stay ?_)
    refine Sat.lp (fun j : Nat => ⟨[(7, vi .i64 j), (3, .c (.bp 0 0)), (4, .c (.bp 1 0)), (5, .c (.bp 2 0))], [(0, .box L.v), (1, .box [int ib, int (bl + (L.pl j - L.pl (ib + 1))), int (bh + (L.ph j - L.ph (ib + 1)))]), (2, .box [int ia, int al, int ah])], 3⟩)
      (fun j => ib + 1 ≤ j ∧ j ≤ ia + 1) (fun j => ia + 1 - j) (ib + 1) [0, 1, 2] ⟨Nat.le_refl _, by omega⟩ ?_ ?_
    · (refine qis ?_ ?_ <;> (repeat' first | exact rfl | (refine qS ?_; constructor)))
      all_goals omega
    · intro j hj
      refine Fork.dec (fun hlt => ?_) (fun hlt => ?_)
      · have hlt : j ≤ ia := by omega
        have hrd := hL.round (show j < L.l.length by omega)
        have e1 : L.pl (j + 1) = L.pl j + (L.l.getD j (0, 0, 0)).2.2 * (L.b.getD j (0, 0)).1 := rfl
        have e2 : L.ph (j + 1) = L.ph j + (L.l.getD j (0, 0, 0)).2.2 * (L.b.getD j (0, 0)).2 := rfl
        (repeat' first | (refine Owe.same ?_; first | refine Owe.o ?_ | refine Owe.mk ?_ ?_) | (refine Fork.same ?_; (first | refine fkY ?_ | refine fkF ?_ | ((first | refine fkD ?_ ?_ | refine fkN ?_ ?_ | refine fkM ?_ ?_) <;> intro h))) | ((first | refine OpsL.same ?_ | refine OpsDL.same ?_); first | refine oK c1 rfl rfl rfl ?_) | refine MvQ.stay ?_)
        refine again (j + 1) [0, 1, 2] ⟨by omega, by omega⟩ (by omega) ?_
        (refine qis ?_ ?_ <;> (repeat' first | exact rfl | (refine qS ?_; constructor)))
        · have f1 : L.pl (j + 1) = L.pl j + (L.l.getD (j : Int).toNat (0, 0, 0)).2.2 * (L.b.getD (j : Int).toNat (0, 0)).1 := rfl
          omega
        · have f2 : L.ph (j + 1) = L.ph j + (L.l.getD (j : Int).toNat (0, 0, 0)).2.2 * (L.b.getD (j : Int).toNat (0, 0)).2 := rfl
          omega
      · have : j = ia + 1 := by omega
        subst this
        (repeat' first | (refine Owe.same ?_; first | refine Owe.o ?_ | refine Owe.mk ?_ ?_) | (refine Fork.same ?_; (first | refine fkY ?_ | refine fkF ?_ | ((first | refine fkD ?_ ?_ | refine fkN ?_ ?_ | refine fkM ?_ ?_) <;> intro h))) | ((first | refine OpsL.same ?_ | refine OpsDL.same ?_); first | refine oK c1 rfl rfl rfl ?_) | refine MvQ.stay ?_)
        (refine rqK rfl ?_; (repeat' first | exact rfl | (refine qS ?_; constructor)))
  · rw [show ap2 L ((ia : Int), al, ah) ((ib : Int), bl, bh) = dsI (bl, bh) (al + (L.pl (ib + 1) - L.pl (ia + 1)), ah + (L.ph (ib + 1) - L.ph (ia + 1))) from if_neg h]
    have hA := hL.bd (ia + 1) (by omega)
    have hB := hL.bd (ib + 1) (by omega)
    have c1 := C151 (p := (al + (L.pl (ib + 1) - L.pl (ia + 1)), ah + (L.ph (ib + 1) - L.ph (ia + 1)))) (q := (bl, bh)) ⟨⟨by omega, by omega⟩, ⟨by omega, by omega⟩⟩
    rw [dsI_comm] at c1
    generalize max 0 (dsI (bl, bh) (al + (L.pl (ib + 1) - L.pl (ia + 1)), ah + (L.ph (ib + 1) - L.ph (ia + 1)))) = W at *
    change PFD Try.prog 133 [.agg L.v, .agg [int (ia : Int), int al, int ah], .agg [int (ib : Int), int bl, int bh]] _
    refine pi1 fn133 ?_
    (repeat' first | (refine Owe.same ?_; first | refine Owe.o ?_ | refine Owe.mk ?_ ?_) | (refine Fork.same ?_; (first | refine fkY ?_ | refine fkF ?_ | ((first | refine fkD ?_ ?_ | refine fkN ?_ ?_ | refine fkM ?_ ?_) <;> intro h))) | ((first | refine OpsL.same ?_ | refine OpsDL.same ?_); first | refine oK c1 rfl rfl rfl ?_) | refine MvQ.stay ?_)
    refine Sat.lp (fun j : Nat => ⟨[(7, vi .i64 j), (3, .c (.bp 0 0)), (4, .c (.bp 1 0)), (5, .c (.bp 2 0))], [(0, .box L.v), (1, .box [int ia, int (al + (L.pl j - L.pl (ia + 1))), int (ah + (L.ph j - L.ph (ia + 1)))]), (2, .box [int ib, int bl, int bh])], 3⟩)
      (fun j => ia + 1 ≤ j ∧ j ≤ ib + 1) (fun j => ib + 1 - j) (ia + 1) [0, 1, 2] ⟨Nat.le_refl _, by omega⟩ ?_ ?_
    · (refine qis ?_ ?_ <;> (repeat' first | exact rfl | (refine qS ?_; constructor)))
      all_goals omega
    · intro j hj
      refine Fork.dec (fun hlt => ?_) (fun hlt => ?_)
      · have hlt : j ≤ ib := by omega
        have hrd := hL.round (show j < L.l.length by omega)
        have e1 : L.pl (j + 1) = L.pl j + (L.l.getD j (0, 0, 0)).2.2 * (L.b.getD j (0, 0)).1 := rfl
        have e2 : L.ph (j + 1) = L.ph j + (L.l.getD j (0, 0, 0)).2.2 * (L.b.getD j (0, 0)).2 := rfl
        (repeat' first | (refine Owe.same ?_; first | refine Owe.o ?_ | refine Owe.mk ?_ ?_) | (refine Fork.same ?_; (first | refine fkY ?_ | refine fkF ?_ | ((first | refine fkD ?_ ?_ | refine fkN ?_ ?_ | refine fkM ?_ ?_) <;> intro h))) | ((first | refine OpsL.same ?_ | refine OpsDL.same ?_); first | refine oK c1 rfl rfl rfl ?_) | refine MvQ.stay ?_)
        refine again (j + 1) [0, 1, 2] ⟨by omega, by omega⟩ (by omega) ?_
        (refine qis ?_ ?_ <;> (repeat' first | exact rfl | (refine qS ?_; constructor)))
        · have f1 : L.pl (j + 1) = L.pl j + (L.l.getD (j : Int).toNat (0, 0, 0)).2.2 * (L.b.getD (j : Int).toNat (0, 0)).1 := rfl
          omega
        · have f2 : L.ph (j + 1) = L.ph j + (L.l.getD (j : Int).toNat (0, 0, 0)).2.2 * (L.b.getD (j : Int).toNat (0, 0)).2 := rfl
          omega
      · have : j = ib + 1 := by omega
        subst this
        (repeat' first | (refine Owe.same ?_; first | refine Owe.o ?_ | refine Owe.mk ?_ ?_) | (refine Fork.same ?_; (first | refine fkY ?_ | refine fkF ?_ | ((first | refine fkD ?_ ?_ | refine fkN ?_ ?_ | refine fkM ?_ ?_) <;> intro h))) | ((first | refine OpsL.same ?_ | refine OpsDL.same ?_); first | refine oK c1 rfl rfl rfl ?_) | refine MvQ.stay ?_)
        (refine rqK rfl ?_; (repeat' first | exact rfl | (refine qS ?_; constructor)))
/-- The error of a line, a box and readings. -/
abbrev opR (x z : Int) (l : List Lk) (b : List Rg) (r : List Lk) : Int := if (lbE x z l b).2 = 0 then rdsE l.length r else (lbE x z l b).2
theorem C129 {x z : Int} {l : List Lk} {b : List Rg} {r : List Lk} : (l.length ≤ 1000000 ∧ b.length ≤ 1000000 ∧ r.length ≤ 1000000) → PFD Try.prog 129 [.agg [int x, int z, trs l], .c (prs b), .c (trs r)] (.tup [.agg (Ln.mk x z l b).v, vi .i64 (opR x z l b r)]) := fun hl => by
  have c1 := C127 (x := x) (z := z) (l := l) (b := b) (by omega)
  by_cases h0 : (lbE x z l b).2 = 0
  · rw [opR, if_pos h0]
    by_cases h12 : r.length ≤ 12
    · have e0 : fstE [(lbE x z l b).2, unb (decide ((r.length : Int) ≤ 12)) 8] = 0 := by rw [h0, decide_eq_true (by omega)]; rfl
      rw [rdsE, if_pos h12]
      refine pi2 fn129 ?_
      (repeat' first | (refine Owe.same ?_; first | refine Owe.o ?_ | refine Owe.mk ?_ ?_) | (refine Fork.same ?_; (first | refine fkD ?_ ?_ | refine fkN ?_ ?_ | refine fkM ?_ ?_) <;> intro h) | ((first | refine OpsL.same ?_ | refine OpsDL.same ?_); first | refine oK c1 rfl rfl rfl ?_ | refine oK C91 rfl rfl rfl ?_) | refine MvQ.stay ?_)
      (repeat' first | (refine Owe.same ?_; first | refine Owe.o ?_ | refine Owe.mk ?_ ?_) | (refine Fork.same ?_; (first | refine fkD ?_ ?_ | refine fkN ?_ ?_ | refine fkM ?_ ?_) <;> intro h) | ((first | refine OpsL.same ?_ | refine OpsDL.same ?_); first | refine pK C90 rfl rfl ?_) | refine MvQ.stay ?_)
      · exact absurd e0 h
      refine Ops.cs rfl rfl (CallS.of fn149 rfl ?_)
      (repeat' first | (refine Owe.same ?_; first | refine Owe.o ?_ | refine Owe.mk ?_ ?_) | (refine Fork.same ?_; (first | refine fkD ?_ ?_ | refine fkN ?_ ?_ | refine fkM ?_ ?_) <;> intro h) | refine MvQ.stay ?_)
      refine Sat.lp (fun k : Nat => ⟨[(11, vi .i64 k), (10, vi .i64 r.length), (9, .c (trs r)), (1, .c (.fn 150 [0]))], [(2, .box (Ln.mk x z l b).v), (1, .box [int 0, int 0, .d (.v (.slice none 0 0)), .d (.v (.slice none 0 0))]), (0, .box [int x, int z, trs l])], 3⟩)
        (fun k => k ≤ r.length ∧ eachE (rdE l.length) 0 r = eachE (rdE l.length) k (r.drop k)) (fun k => r.length - k) 0 [] ⟨Nat.zero_le _, rfl⟩ ?_ ?_
      · (refine qis ?_ ?_ <;> (repeat' first | exact rfl | (refine qS ?_; constructor)))
      · intro k hk
        refine Fork.dec (fun hlt => ?_) (fun hlt => ?_)
        · have hlt : k < r.length := by omega
          have e2 := eachE_drop (rdE l.length) (0, 0, 0) r k hlt
          rw [← hk.2] at e2
          (repeat' first | (refine Owe.same ?_; first | refine Owe.o ?_ | refine Owe.mk ?_ ?_) | (refine Fork.same ?_; (first | refine fkD ?_ ?_ | refine fkN ?_ ?_ | refine fkM ?_ ?_) <;> intro h) | refine MvQ.stay ?_)
          refine Ops.cs rfl rfl (CallS.of fn150 rfl ?_)
          have cB := C106 (n := (r.getD k (0, 0, 0)).2.1) (m := 20000) (by decide)
          by_cases hB : -20000 ≤ (r.getD k (0, 0, 0)).2.1 ∧ (r.getD k (0, 0, 0)).2.1 ≤ 20000
          · rw [decide_eq_true hB] at cB
            have ev : fstE [unb (decide (0 ≤ (r.getD k (0, 0, 0)).1 ∧ (r.getD k (0, 0, 0)).1 ≤ (l.length : Int) - 1)) 6, unb (decide (-20000 ≤ (r.getD k (0, 0, 0)).2.2 ∧ (r.getD k (0, 0, 0)).2.2 ≤ 20000)) 2, unb (decide ((r.getD k (0, 0, 0)).2.1 ≤ (r.getD k (0, 0, 0)).2.2)) 9] = rdE l.length (r.getD k (0, 0, 0)) := by
              simp only [rdE, unl]
              rw [show decide ((-20000 ≤ (r.getD k (0, 0, 0)).2.1 ∧ (r.getD k (0, 0, 0)).2.1 ≤ 20000) ∧ -20000 ≤ (r.getD k (0, 0, 0)).2.2 ∧ (r.getD k (0, 0, 0)).2.2 ≤ 20000) = (decide (-20000 ≤ (r.getD k (0, 0, 0)).2.2 ∧ (r.getD k (0, 0, 0)).2.2 ≤ 20000)) by rw [Bool.eq_iff_iff]; simp only [decide_eq_true_eq]; omega]
            (repeat' first | (refine Owe.same ?_; first | refine Owe.o ?_ | refine Owe.mk ?_ ?_) | (refine Fork.same ?_; (first | refine fkY ?_ | refine fkF ?_ | ((first | refine fkD ?_ ?_ | refine fkN ?_ ?_ | refine fkM ?_ ?_) <;> intro h))) | ((first | refine OpsL.same ?_ | refine OpsDL.same ?_); first | refine oK C104 rfl rfl rfl ?_ | refine oK cB rfl rfl rfl ?_ | refine oK C106 rfl rfl rfl ?_ | refine oK C91 rfl rfl rfl ?_) | refine MvQ.stay ?_)
            (repeat' first | (refine Owe.same ?_; first | refine Owe.o ?_ | refine Owe.mk ?_ ?_) | (refine Fork.same ?_; (first | refine fkD ?_ ?_ | refine fkN ?_ ?_ | refine fkM ?_ ?_) <;> intro h) | ((first | refine OpsL.same ?_ | refine OpsDL.same ?_); first | refine pK C90 rfl rfl ?_) | refine MvQ.stay ?_)
            · have h : ¬ rdE l.length (r.getD k (0, 0, 0)) = 0 := fun h9 => h (ev.trans h9)
              rw [if_neg h] at e2
              rw [e2]
              (refine rqK rfl ?_; (repeat' first | exact rfl | (refine qS ?_; constructor)))
              exact ev
            · have h : rdE l.length (r.getD k (0, 0, 0)) = 0 := ev.symm.trans h
              rw [if_pos h] at e2
              refine again (k + 1) [] ⟨hlt, e2⟩ (by omega) ?_
              (refine qis ?_ ?_ <;> (repeat' first | exact rfl | (refine qS ?_; constructor)))
          · rw [decide_eq_false hB] at cB
            have ev : fstE [unb (decide (0 ≤ (r.getD k (0, 0, 0)).1 ∧ (r.getD k (0, 0, 0)).1 ≤ (l.length : Int) - 1)) 6, unb false 2, unb (decide ((r.getD k (0, 0, 0)).2.1 ≤ (r.getD k (0, 0, 0)).2.2)) 9] = rdE l.length (r.getD k (0, 0, 0)) := by
              simp only [rdE, unl]
              rw [show decide ((-20000 ≤ (r.getD k (0, 0, 0)).2.1 ∧ (r.getD k (0, 0, 0)).2.1 ≤ 20000) ∧ -20000 ≤ (r.getD k (0, 0, 0)).2.2 ∧ (r.getD k (0, 0, 0)).2.2 ≤ 20000) = false from decide_eq_false (fun h => hB h.1)]
            (repeat' first | (refine Owe.same ?_; first | refine Owe.o ?_ | refine Owe.mk ?_ ?_) | (refine Fork.same ?_; (first | refine fkY ?_ | refine fkF ?_ | ((first | refine fkD ?_ ?_ | refine fkN ?_ ?_ | refine fkM ?_ ?_) <;> intro h))) | ((first | refine OpsL.same ?_ | refine OpsDL.same ?_); first | refine oK C104 rfl rfl rfl ?_ | refine oK cB rfl rfl rfl ?_ | refine oK C106 rfl rfl rfl ?_ | refine oK C91 rfl rfl rfl ?_) | refine MvQ.stay ?_)
            (repeat' first | (refine Owe.same ?_; first | refine Owe.o ?_ | refine Owe.mk ?_ ?_) | (refine Fork.same ?_; (first | refine fkD ?_ ?_ | refine fkN ?_ ?_ | refine fkM ?_ ?_) <;> intro h) | ((first | refine OpsL.same ?_ | refine OpsDL.same ?_); first | refine pK C90 rfl rfl ?_) | refine MvQ.stay ?_)
            · have h : ¬ rdE l.length (r.getD k (0, 0, 0)) = 0 := fun h9 => h (ev.trans h9)
              rw [if_neg h] at e2
              rw [e2]
              (refine rqK rfl ?_; (repeat' first | exact rfl | (refine qS ?_; constructor)))
              exact ev
            · have h : rdE l.length (r.getD k (0, 0, 0)) = 0 := ev.symm.trans h
              rw [if_pos h] at e2
              refine again (k + 1) [] ⟨hlt, e2⟩ (by omega) ?_
              (refine qis ?_ ?_ <;> (repeat' first | exact rfl | (refine qS ?_; constructor)))
        · (repeat' first | (refine Owe.same ?_; first | refine Owe.o ?_ | refine Owe.mk ?_ ?_) | (refine Fork.same ?_; (first | refine fkD ?_ ?_ | refine fkN ?_ ?_ | refine fkM ?_ ?_) <;> intro h) | refine MvQ.stay ?_)
          rw [hk.2, List.drop_of_length_le (by omega)]
          (refine rqK rfl ?_; (repeat' first | exact rfl | (refine qS ?_; constructor)))
    · rw [rdsE, if_neg h12]
      have e0 : fstE [(lbE x z l b).2, unb (decide ((r.length : Int) ≤ 12)) 8] = 8 := by rw [h0, decide_eq_false (by omega)]; rfl
      refine pi2 fn129 ?_
      (repeat' first | (refine Owe.same ?_; first | refine Owe.o ?_ | refine Owe.mk ?_ ?_) | (refine Fork.same ?_; (first | refine fkD ?_ ?_ | refine fkN ?_ ?_ | refine fkM ?_ ?_) <;> intro h) | ((first | refine OpsL.same ?_ | refine OpsDL.same ?_); first | refine oK c1 rfl rfl rfl ?_ | refine oK C91 rfl rfl rfl ?_) | refine MvQ.stay ?_)
      (repeat' first | (refine Owe.same ?_; first | refine Owe.o ?_ | refine Owe.mk ?_ ?_) | (refine Fork.same ?_; (first | refine fkD ?_ ?_ | refine fkN ?_ ?_ | refine fkM ?_ ?_) <;> intro h) | ((first | refine OpsL.same ?_ | refine OpsDL.same ?_); first | refine pK C90 rfl rfl ?_) | refine MvQ.stay ?_)
      · (refine rqK rfl ?_; (repeat' first | exact rfl | (refine qS ?_; constructor)))
        exact e0
      · rw [e0] at h
        exact absurd h (by decide)
  · rw [opR, if_neg h0]
    have e0 : fstE [(lbE x z l b).2, unb (decide ((r.length : Int) ≤ 12)) 8] = (lbE x z l b).2 := by simp only [fstE, if_neg h0]
    refine pi2 fn129 ?_
    (repeat' first | (refine Owe.same ?_; first | refine Owe.o ?_ | refine Owe.mk ?_ ?_) | (refine Fork.same ?_; (first | refine fkD ?_ ?_ | refine fkN ?_ ?_ | refine fkM ?_ ?_) <;> intro h) | ((first | refine OpsL.same ?_ | refine OpsDL.same ?_); first | refine oK c1 rfl rfl rfl ?_ | refine oK C91 rfl rfl rfl ?_) | refine MvQ.stay ?_)
    (repeat' first | (refine Owe.same ?_; first | refine Owe.o ?_ | refine Owe.mk ?_ ?_) | (refine Fork.same ?_; (first | refine fkD ?_ ?_ | refine fkN ?_ ?_ | refine fkM ?_ ?_) <;> intro h) | ((first | refine OpsL.same ?_ | refine OpsDL.same ?_); first | refine pK C90 rfl rfl ?_) | refine MvQ.stay ?_)
    · (refine rqK rfl ?_; (repeat' first | exact rfl | (refine qS ?_; constructor)))
      exact e0
    · rw [e0] at h
      exact absurd h h0
end Go.Pw

set_option linter.unusedSimpArgs false
set_option linter.unusedVariables false
namespace Go.Pw
set_option maxRecDepth 2000
open Go Go.Proofs A1 A2 A3 A4
theorem least {q : Nat → Prop} : ∀ n : Nat, (∀ i, i < n → ¬ q i) ∨ ∃ i, i < n ∧ q i ∧ ∀ j, j < i → ¬ q j
  | 0 => .inl fun i hi => absurd hi (Nat.not_lt_zero _)
  | n + 1 => by
    rcases least (q := q) n with h | ⟨i, hi, h1, h2⟩
    · by_cases hn : q n
      · exact .inr ⟨n, Nat.lt_succ_self n, hn, h⟩
      · refine .inl fun i hi => ?_
        rcases Nat.lt_succ_iff_lt_or_eq.1 hi with h1 | rfl
        · exact h i h1
        · exact hn
    · exact .inr ⟨i, by omega, h1, h2⟩
/-- A list is the first contradiction: of one reading, or else of two. -/
inductive Con (p : Nat → Prop) (q : Nat → Nat → Prop) (n : Nat) : List Int → Prop
  | one (i : Nat) (hi : i < n) (h : p i) (hb : ∀ j, j < i → ¬ p j) : Con p q n [(i : Int)]
  | two (i k : Nat) (hn : ∀ j, j < n → ¬ p j) (hik : i < k) (hk : k < n) (h : q i k) (hi : ∀ i', i' < i → ∀ k', i' < k' → k' < n → ¬ q i' k') (hkb : ∀ k', i < k' → k' < k → ¬ q i k') : Con p q n [(i : Int), (k : Int)]
  | non (hn : ∀ j, j < n → ¬ p j) (h : ∀ i k, i < k → k < n → ¬ q i k) : Con p q n []
theorem Con.exists (p : Nat → Prop) (q : Nat → Nat → Prop) (n : Nat) : ∃ s, Con p q n s := by
  rcases least (q := p) n with h | ⟨i, hi, h1, h2⟩
  · rcases least (q := fun i => ∃ k, i < k ∧ k < n ∧ q i k) n with g | ⟨i, hi, ⟨k0, g0, g1, g2⟩, g3⟩
    · exact ⟨_, .non h fun i k hik hk hq => g i (by omega) ⟨k, hik, hk, hq⟩⟩
    · rcases least (q := fun k => i < k ∧ q i k) n with f | ⟨k, hk, ⟨f1, f2⟩, f3⟩
      · exact absurd ⟨g0, g2⟩ (f k0 g1)
      · exact ⟨_, .two i k h f1 hk f2 (fun i' hi' k' h1 h2 h3 => g3 i' hi' ⟨k', h1, h2, h3⟩) fun k' h1 h2 h3 => f3 k' h2 ⟨h1, h3⟩⟩
  · exact ⟨_, .one i hi h1 h2⟩
theorem Con.unique {p : Nat → Prop} {q : Nat → Nat → Prop} {n : Nat} {s t : List Int} (h : Con p q n s) (g : Con p q n t) : s = t := by
  cases h with
  | one i hi h hb =>
    cases g with
    | one j hj g gb =>
      rcases Nat.lt_trichotomy i j with e | rfl | e
      · exact absurd h (gb i e)
      · rfl
      · exact absurd g (hb j e)
    | two _ _ gn => exact absurd h (gn i hi)
    | non gn => exact absurd h (gn i hi)
  | two i k hn hik hk h hi hkb =>
    cases g with
    | one j hj g gb => exact absurd g (hn j hj)
    | two j m gn gjm gm g gi gmb =>
      rcases Nat.lt_trichotomy i j with e | rfl | e
      · exact absurd h (gi i e k hik hk)
      · rcases Nat.lt_trichotomy k m with e | rfl | e
        · exact absurd h (gmb k hik e)
        · rfl
        · exact absurd g (hkb m gjm e)
      · exact absurd g (hi j e m gjm gm)
    | non gn g => exact absurd h (g i k hik hk)
  | non hn h =>
    cases g with
    | one j hj g gb => exact absurd g (hn j hj)
    | two j m gn gjm gm g gi gmb => exact absurd g (h j m gjm gm)
    | non => rfl
theorem Con.len {p : Nat → Prop} {q : Nat → Nat → Prop} {n : Nat} {s : List Int} (h : Con p q n s) : s.length ≤ 2 := by cases h <;> simp
abbrev rd (r : List Lk) (i : Nat) : Lk := r.getD i (0, 0, 0)
abbrev CnR (L : Ln) (r : List Lk) (s : List Int) : Prop := Con (fun i => 0 < ap1 L (rd r i)) (fun i k => 0 < ap2 L (rd r i) (rd r k)) r.length s
theorem opR_ok {x z : Int} {l : List Lk} {b : List Rg} {r : List Lk} (h : opR x z l b r = 0) : (Ln.mk x z l b).Ok ∧ r.length ≤ 12 ∧ ∀ i, i < r.length → rdOk l.length (rd r i) := by
  simp only [opR] at h
  split at h
  · rename_i h0
    have := rdsE_ok.1 h
    exact ⟨lbE_ok h0, this.1, this.2⟩
  · rename_i h0; exact absurd h h0
theorem C78 {x z : Int} {l : List Lk} {b : List Rg} {r : List Lk} {s : List Int} : ((l.length ≤ 1000000 ∧ b.length ≤ 1000000 ∧ r.length ≤ 1000000) ∧ (opR x z l b r = 0 → CnR ⟨x, z, l, b⟩ r s)) →
    PFD Try.prog 78 [.agg [int x, int z, trs l], .c (prs b), .c (trs r)] (.tup [.c (ints (orE (opR x z l b r) s)), vi .i64 (if opR x z l b r = 0 then (if s = [] then 12 else 0) else opR x z l b r)]) := fun ⟨hl, hs⟩ => by
  have c1 := C129 (x := x) (z := z) hl
  by_cases h0 : opR x z l b r = 0
  · obtain ⟨hL, hr, ho⟩ := opR_ok h0
    replace hs := hs h0
    rw [orE, if_pos h0, if_pos h0]
    rw [h0] at c1
    have ca := fun (i : Nat) (hi : i < r.length) => C132 (o := rd r i) ⟨hL, ho i hi⟩
    have cb := fun (i k : Nat) (hi : i < r.length) (hk : k < r.length) => C133 (a := rd r i) (b := rd r k) ⟨hL, ho i hi, ho k hk⟩
    simp only [CnR] at hs
    generalize hp : (fun i => ap1 ⟨x, z, l, b⟩ (rd r i)) = p at *
    generalize hq : (fun i k => ap2 ⟨x, z, l, b⟩ (rd r i) (rd r k)) = q at *
    replace ca : ∀ i, i < r.length → PFD Try.prog 132 [.agg [int x, int z, trs l, prs b], .agg [int (rd r i).1, int (rd r i).2.1, int (rd r i).2.2]] (vi .i64 (max 0 (p i))) := fun i hi => by rw [← hp]; exact ca i hi
    replace cb : ∀ i k, i < r.length → k < r.length → PFD Try.prog 133 [.agg [int x, int z, trs l, prs b], .agg [int (rd r i).1, int (rd r i).2.1, int (rd r i).2.2], .agg [int (rd r k).1, int (rd r k).2.1, int (rd r k).2.2]] (vi .i64 (max 0 (q i k))) := fun i k hi hk => by rw [← hq]; exact cb i k hi hk
    replace hs : Con (fun i => 0 < p i) (fun i k => 0 < q i k) r.length s := by rw [← hp, ← hq]; exact hs
    clear hp hq ho hL h0
    change PFD Try.prog 129 _ (.tup [.agg [int x, int z, trs l, prs b], vi .i64 0]) at c1
    refine pi2 fn78 ?_
    (repeat' first | (refine Owe.same ?_; first | refine Owe.o ?_ | refine Owe.mk ?_ ?_) | (refine Fork.same ?_; (first | refine fkY ?_ | refine fkF ?_ | ((first | refine fkD ?_ ?_ | refine fkN ?_ ?_ | refine fkM ?_ ?_) <;> intro h))) | ((first | refine OpsL.same ?_ | refine OpsDL.same ?_); first | refine oK c1 rfl rfl rfl ?_) | refine MvQ.stay ?_)
    refine Ops.cs rfl rfl (CallS.of fn130 rfl ?_)
    (repeat' first | (refine Owe.same ?_; first | refine Owe.o ?_ | refine Owe.mk ?_ ?_) | (refine Fork.same ?_; (first | refine fkD ?_ ?_ | refine fkN ?_ ?_ | refine fkM ?_ ?_) <;> intro h) | refine MvQ.stay ?_)
    refine Sat.lp (fun i : Nat => ⟨[(8, vi .i64 i), (7, vi .i64 r.length), (6, .c (trs r)), (0, .c (trs r)), (1, .c (.fn 131 [1]))], [(1, .box [int x, int z, trs l, prs b]), (0, .box [int x, int z, trs l])], 2⟩)
      (fun i => i ≤ r.length ∧ ∀ j, j < i → ¬ 0 < p j) (fun i => r.length - i) 0 [] ⟨Nat.zero_le _, fun j h => absurd h (Nat.not_lt_zero _)⟩ ?_ ?_
    · (refine qis ?_ ?_ <;> (repeat' first | exact rfl | (refine qS ?_; constructor)))
    · intro i hi
      refine Fork.dec (fun hlt => ?_) (fun hlt => ?_)
      · have hlt : i < r.length := by omega
        have c2 := ca i hlt
        (repeat' first | (refine Owe.same ?_; first | refine Owe.o ?_ | refine Owe.mk ?_ ?_) | (refine Fork.same ?_; (first | refine fkD ?_ ?_ | refine fkN ?_ ?_ | refine fkM ?_ ?_) <;> intro h) | refine MvQ.stay ?_)
        refine Ops.cs rfl rfl (CallS.of fn131 rfl ?_)
        (repeat' first | (refine Owe.same ?_; first | refine Owe.o ?_ | refine Owe.mk ?_ ?_) | (refine Fork.same ?_; (first | refine fkY ?_ | refine fkF ?_ | ((first | refine fkD ?_ ?_ | refine fkN ?_ ?_ | refine fkM ?_ ?_) <;> intro h))) | ((first | refine OpsL.same ?_ | refine OpsDL.same ?_); first | refine oK c2 rfl rfl rfl ?_) | refine MvQ.stay ?_)
        · have h : 0 < p i := by have h : 0 < max 0 (p i) := h; omega
          rw [hs.unique (.one i hlt h hi.2)]
          (refine rqK rfl ?_; (repeat' first | exact rfl | (refine qS ?_; constructor)))
        · have h : ¬ 0 < p i := by have h : ¬ 0 < max 0 (p i) := h; omega
          refine again (i + 1) [] ⟨hlt, fun j hj => ?_⟩ (by omega) ?_
          · rcases Nat.lt_succ_iff_lt_or_eq.1 hj with h3 | rfl
            · exact hi.2 j h3
            · exact h
          · (refine qis ?_ ?_ <;> (repeat' first | exact rfl | (refine qS ?_; constructor)))
      · have : i = r.length := by omega
        subst this
        have hn := hi.2
        (repeat' first | (refine Owe.same ?_; first | refine Owe.o ?_ | refine Owe.mk ?_ ?_) | (refine Fork.same ?_; (first | refine fkY ?_ | refine fkF ?_ | ((first | refine fkD ?_ ?_ | refine fkN ?_ ?_ | refine fkM ?_ ?_) <;> intro h))) | ((first | refine OpsL.same ?_ | refine OpsDL.same ?_); first | refine oK c1 rfl rfl rfl ?_) | refine MvQ.stay ?_)
        refine Sat.lp (fun i : Nat => ⟨[(33, vi .i64 i), (32, vi .i64 r.length), (31, .c (trs r)), (2, .c (trs r)), (8, .c (.bp 1 0))], [(1, .box [int x, int z, trs l, prs b]), (0, .box [int x, int z, trs l])], 2⟩)
          (fun i => i ≤ r.length ∧ ∀ i', i' < i → ∀ k', i' < k' → k' < r.length → ¬ 0 < q i' k') (fun i => r.length - i) 0 [0, 1] ⟨Nat.zero_le _, fun j h => absurd h (Nat.not_lt_zero _)⟩ ?_ ?_
        · (refine qis ?_ ?_ <;> (repeat' first | exact rfl | (refine qS ?_; constructor)))
        · intro i hi
          refine Fork.dec (fun hlt => ?_) (fun hlt => ?_)
          · have hlt : i < r.length := by omega
            (repeat' first | (refine Owe.same ?_; first | refine Owe.o ?_ | refine Owe.mk ?_ ?_) | (refine Fork.same ?_; (first | refine fkD ?_ ?_ | refine fkN ?_ ?_ | refine fkM ?_ ?_) <;> intro h) | refine MvQ.stay ?_)
            refine Sat.lp (fun k : Nat => ⟨[(13, vi .i64 k), (11, vi .i64 i), (12, .c (.bp 2 0)), (33, vi .i64 i), (32, vi .i64 r.length), (31, .c (trs r)), (2, .c (trs r)), (8, .c (.bp 1 0))], [(2, .box [int (rd r i).1, int (rd r i).2.1, int (rd r i).2.2]), (1, .box [int x, int z, trs l, prs b]), (0, .box [int x, int z, trs l])], 3⟩)
              (fun k => i + 1 ≤ k ∧ k ≤ r.length ∧ ∀ k', i < k' → k' < k → ¬ 0 < q i k') (fun k => r.length - k) (i + 1) [0, 1, 2] ⟨Nat.le_refl _, hlt, fun k' h1 h2 => by omega⟩ ?_ ?_
            · (refine qis ?_ ?_ <;> (repeat' first | exact rfl | (refine qS ?_; constructor)))
            · intro k hk
              refine Fork.dec (fun hlt2 => ?_) (fun hlt2 => ?_)
              · have hlt2 : k < r.length := by omega
                have c3 := cb i k hlt hlt2
                (repeat' first | (refine Owe.same ?_; first | refine Owe.o ?_ | refine Owe.mk ?_ ?_) | (refine Fork.same ?_; (first | refine fkY ?_ | refine fkF ?_ | ((first | refine fkD ?_ ?_ | refine fkN ?_ ?_ | refine fkM ?_ ?_) <;> intro h))) | ((first | refine OpsL.same ?_ | refine OpsDL.same ?_); first | refine oK c3 rfl rfl rfl ?_) | refine MvQ.stay ?_)
                · have h : 0 < q i k := by have h : 0 < max 0 (q i k) := h; omega
                  rw [hs.unique (.two i k hn (by omega) hlt2 h hi.2 hk.2.2)]
                  (refine rqK rfl ?_; (repeat' first | exact rfl | (refine qS ?_; constructor)))
                · have h : ¬ 0 < q i k := by have h : ¬ 0 < max 0 (q i k) := h; omega
                  refine again (k + 1) [0, 1, 2] ⟨by omega, hlt2, fun k' h1 h2 => ?_⟩ (by omega) ?_
                  · rcases Nat.lt_succ_iff_lt_or_eq.1 h2 with h3 | rfl
                    · exact hk.2.2 k' h1 h3
                    · exact h
                  · (refine qis ?_ ?_ <;> (repeat' first | exact rfl | (refine qS ?_; constructor)))
              · have : k = r.length := by omega
                subst this
                (repeat' first | (refine Owe.same ?_; first | refine Owe.o ?_ | refine Owe.mk ?_ ?_) | (refine Fork.same ?_; (first | refine fkD ?_ ?_ | refine fkN ?_ ?_ | refine fkM ?_ ?_) <;> intro h) | refine MvQ.stay ?_)
                refine again (i + 1) [0, 1] ⟨hlt, fun i' h1 => ?_⟩ (by omega) ?_
                · rcases Nat.lt_succ_iff_lt_or_eq.1 h1 with h3 | rfl
                  · exact hi.2 i' h3
                  · exact hk.2.2
                · (refine qis ?_ ?_ <;> (repeat' first | exact rfl | (refine qS ?_; constructor)))
          · have : i = r.length := by omega
            subst this
            rw [hs.unique (.non hn fun i k hik hk => hi.2 i (by omega) k hik hk)]
            (repeat' first | (refine Owe.same ?_; first | refine Owe.o ?_ | refine Owe.mk ?_ ?_) | (refine Fork.same ?_; (first | refine fkD ?_ ?_ | refine fkN ?_ ?_ | refine fkM ?_ ?_) <;> intro h) | refine MvQ.stay ?_)
            (refine rqK rfl ?_; (repeat' first | exact rfl | (refine qS ?_; constructor)))
  · rw [orE, if_neg h0, if_neg h0]
    refine pi2 fn78 ?_
    (repeat' first | (refine Owe.same ?_; first | refine Owe.o ?_ | refine Owe.mk ?_ ?_) | (refine Fork.same ?_; (first | refine fkD ?_ ?_ | refine fkN ?_ ?_ | refine fkM ?_ ?_) <;> intro h) | ((first | refine OpsL.same ?_ | refine OpsDL.same ?_); first | refine oK c1 rfl rfl rfl ?_) | refine MvQ.stay ?_)
    · (refine rqK rfl ?_; (repeat' first | exact rfl | (refine qS ?_; constructor)))
    · exact absurd h h0
/-- The error of a set of readings; by how much they are apart. -/
abbrev inI (n : Nat) (a : Int) : Prop := 0 ≤ a ∧ a ≤ (n : Int) - 1
def stI (n : Nat) : List Int → Int
  | [a] => if inI n a then 0 else 6
  | [a, b] => if inI n a then (if inI n b then (if b ≤ a then 9 else 0) else 6) else 6
  | _ => 10
def apS (L : Ln) (r : List Lk) : List Int → Int
  | [a] => ap1 L (rd r a.toNat)
  | [a, b] => ap2 L (rd r a.toNat) (rd r b.toNat)
  | _ => 0
theorem stI_long {n : Nat} {s : List Int} (h : s.length ≠ 1 ∧ s.length ≠ 2) : stI n s = 10 := by
  match s, h with
  | [], _ => rfl
  | [_], h => exact absurd rfl h.1
  | [_, _], h => exact absurd rfl h.2
  | _ :: _ :: _ :: _, _ => rfl
abbrev setV (L : Ln) (r : List Lk) (s : List Int) : Rg := if stI r.length s = 0 then (if 0 < apS L r s then (apS L r s, 0) else (0, 19)) else (0, stI r.length s)
end Go.Pw

set_option linter.unusedSimpArgs false
set_option linter.unusedVariables false
namespace Go.Pw
set_option maxRecDepth 2000
open Go Go.Proofs A1 A2 A3 A4
abbrev ckV (x z : Int) (l : List Lk) (b : List Rg) (r : List Lk) (s : List Int) : Rg := if opR x z l b r = 0 then setV ⟨x, z, l, b⟩ r s else (0, opR x z l b r)
set_option maxHeartbeats 8000000 in
theorem C80 {x z : Int} {l : List Lk} {b : List Rg} {r : List Lk} {s : List Int} : ((l.length ≤ 1000000 ∧ b.length ≤ 1000000 ∧ r.length ≤ 1000000) ∧ s.length ≤ 1000000) →
    PFD Try.prog 80 [.agg [int x, int z, trs l], .c (prs b), .c (trs r), .c (ints s)] (.tup [vi .i64 (ckV x z l b r s).1, vi .i64 (ckV x z l b r s).2]) := fun ⟨hl, hsl⟩ => by
  have c1 := C129 (x := x) (z := z) hl
  have c104 := C104 (n := (s.length : Int)) (lo := 1) (hi := 2)
  by_cases h0 : opR x z l b r = 0
  · obtain ⟨hL, hr, ho⟩ := opR_ok h0
    rw [h0] at c1
    change PFD Try.prog 129 _ (.tup [.agg [int x, int z, trs l, prs b], vi .i64 0]) at c1
    rw [ckV, if_pos h0]
    by_cases hlen : s.length ≠ 1 ∧ s.length ≠ 2
    · rw [decide_eq_false (by omega)] at c104
      rw [setV, stI_long hlen, if_neg (by decide)]
      refine pi2 fn80 ?_
      (repeat' first | (refine Owe.same ?_; first | refine Owe.o ?_ | refine Owe.mk ?_ ?_) | (refine Fork.same ?_; (first | refine fkD ?_ ?_ | refine fkN ?_ ?_ | refine fkM ?_ ?_) <;> intro h) | ((first | refine OpsL.same ?_ | refine OpsDL.same ?_); first | refine oK c1 rfl rfl rfl ?_ | refine oK c104 rfl rfl rfl ?_ | refine oK C91 rfl rfl rfl ?_) | refine MvQ.stay ?_)
      (repeat' first | (refine Owe.same ?_; first | refine Owe.o ?_ | refine Owe.mk ?_ ?_) | (refine Fork.same ?_; (first | refine fkD ?_ ?_ | refine fkN ?_ ?_ | refine fkM ?_ ?_) <;> intro h) | ((first | refine OpsL.same ?_ | refine OpsDL.same ?_); first | refine pK C90 rfl rfl ?_) | refine MvQ.stay ?_)
      · (refine rqK rfl ?_; (repeat' first | exact rfl | (refine qS ?_; constructor)))
      · exact absurd h (by decide)
    · rw [decide_eq_true (by omega)] at c104
      have hab : (∃ a, s = [a]) ∨ ∃ a c, s = [a, c] := by
        match s, hlen with
        | [], h => exact absurd ⟨by decide, by decide⟩ h
        | [a], _ => exact .inl ⟨a, rfl⟩
        | [a, c], _ => exact .inr ⟨a, c, rfl⟩
        | _ :: _ :: _ :: _, h => exact absurd ⟨by simp, by simp⟩ h
      rcases hab with ⟨a, rfl⟩ | ⟨a, c, rfl⟩
      · have cA := C104 (n := a) (lo := 0) (hi := (r.length : Int) - 1)
        by_cases hA : inI r.length a
        · rw [decide_eq_true hA] at cA
          obtain ⟨i, rfl⟩ : ∃ i : Nat, a = i := ⟨a.toNat, by have := hA.1; omega⟩
          have c2 := C132 (o := rd r i) ⟨hL, ho i (by omega)⟩
          rw [setV, show stI r.length [(i : Int)] = 0 from if_pos hA, if_pos rfl]
          change PFD Try.prog 80 _ (.tup [vi .i64 (if 0 < ap1 ⟨x, z, l, b⟩ (rd r i) then (ap1 ⟨x, z, l, b⟩ (rd r i), 0) else (0, 19)).1, vi .i64 (if 0 < ap1 ⟨x, z, l, b⟩ (rd r i) then (ap1 ⟨x, z, l, b⟩ (rd r i), 0) else (0, 19)).2])
          change PFD Try.prog 132 [.agg [int x, int z, trs l, prs b], _] _ at c2
          generalize ap1 ⟨x, z, l, b⟩ (rd r i) = W at *
          refine pi2 fn80 ?_
          (repeat' first | (refine Owe.same ?_; first | refine Owe.o ?_ | refine Owe.mk ?_ ?_) | (refine Fork.same ?_; (first | refine fkD ?_ ?_ | refine fkN ?_ ?_ | refine fkM ?_ ?_) <;> intro h) | ((first | refine OpsL.same ?_ | refine OpsDL.same ?_); first | refine oK c1 rfl rfl rfl ?_ | refine oK c104 rfl rfl rfl ?_ | refine oK C91 rfl rfl rfl ?_) | refine MvQ.stay ?_)
          (repeat' first | (refine Owe.same ?_; first | refine Owe.o ?_ | refine Owe.mk ?_ ?_) | (refine Fork.same ?_; (first | refine fkD ?_ ?_ | refine fkN ?_ ?_ | refine fkM ?_ ?_) <;> intro h) | ((first | refine OpsL.same ?_ | refine OpsDL.same ?_); first | refine pK C90 rfl rfl ?_) | refine MvQ.stay ?_)
          · exact absurd h (by decide)
          refine Ops.cs rfl rfl (CallS.of fn102 rfl ?_)
          (repeat' first | (refine Owe.same ?_; first | refine Owe.o ?_ | refine Owe.mk ?_ ?_) | (refine Fork.same ?_; (first | refine fkD ?_ ?_ | refine fkN ?_ ?_ | refine fkM ?_ ?_) <;> intro h) | refine MvQ.stay ?_)
          refine Sat.lp (fun k : Nat => ⟨[(11, vi .i64 k), (10, vi .i64 1), (9, .c (ints [(i : Int)])), (1, .c (.fn 134 [1, 3])), (0, .c (ints [(i : Int)]))], [(3, .box [int (if k = 0 then -1 else (i : Int))]), (2, .box [int x, int z, trs l, prs b]), (1, .box [trs r]), (0, .box [int x, int z, trs l])], 4⟩)
            (fun k => k = 0 ∨ k = 1) (fun k => 1 - k) 0 [] (.inl rfl) ?_ ?_
          · (refine qis ?_ ?_ <;> (repeat' first | exact rfl | (refine qS ?_; constructor)))
          · intro k hk
            rcases hk with rfl | rfl
            · (repeat' first | (refine Owe.same ?_; first | refine Owe.o ?_ | refine Owe.mk ?_ ?_) | (refine Fork.same ?_; (first | refine fkY ?_ | refine fkF ?_ | ((first | refine fkD ?_ ?_ | refine fkN ?_ ?_ | refine fkM ?_ ?_) <;> intro h))) | ((first | refine OpsL.same ?_ | refine OpsDL.same ?_); first | refine oK c1 rfl rfl rfl ?_) | refine MvQ.stay ?_)
              refine Ops.cs rfl rfl (CallS.of fn134 rfl ?_)
              have c90 := C90 (l := [unb true 6, unb (decide ((-1 : Int) < i)) 9]) (by simp)
              rw [decide_eq_true (show (-1 : Int) < i by omega), show fstE [unb true 6, unb true 9] = 0 from rfl] at c90
              (repeat' first | (refine Owe.same ?_; first | refine Owe.o ?_ | refine Owe.mk ?_ ?_) | (refine Fork.same ?_; (first | refine fkY ?_ | refine fkF ?_ | ((first | refine fkD ?_ ?_ | refine fkN ?_ ?_ | refine fkM ?_ ?_) <;> intro h))) | ((first | refine OpsL.same ?_ | refine OpsDL.same ?_); first | refine oK cA rfl rfl rfl ?_ | refine oK C91 rfl rfl rfl ?_) | refine MvQ.stay ?_)
              (repeat' first | (refine Owe.same ?_; first | refine Owe.o ?_ | refine Owe.mk ?_ ?_) | (refine Fork.same ?_; (first | refine fkY ?_ | refine fkF ?_ | ((first | refine fkD ?_ ?_ | refine fkN ?_ ?_ | refine fkM ?_ ?_) <;> intro h))) | ((first | refine OpsL.same ?_ | refine OpsDL.same ?_); first | refine pK c90 rfl rfl ?_) | refine MvQ.stay ?_)
              refine again 1 [] (Or.inr rfl) (by decide) ?_
              (refine qis ?_ ?_ <;> (repeat' first | exact rfl | (refine qS ?_; constructor)))
            · (repeat' first | (refine Owe.same ?_; first | refine Owe.o ?_ | refine Owe.mk ?_ ?_) | (refine Fork.same ?_; (first | refine fkY ?_ | refine fkF ?_ | ((first | refine fkD ?_ ?_ | refine fkN ?_ ?_ | refine fkM ?_ ?_) <;> intro h))) | ((first | refine OpsL.same ?_ | refine OpsDL.same ?_); first | refine oK c2 rfl rfl rfl ?_ | refine oK C91 rfl rfl rfl ?_) | refine MvQ.stay ?_)
              · change ((0 : Int) ≤ 0 ∧ (0 : Int) < ((1 : Nat) : Int)) ∧ 0 ≤ (i : Int) ∧ (i : Int) < r.length
                omega
              · by_cases hW : 0 < W
                · rw [if_pos hW]
                  (refine rqK rfl ?_; (repeat' first | exact rfl | (refine qS ?_; constructor)))
                  · omega
                  · rw [decide_eq_true (by omega)]; rfl
                · rw [if_neg hW]
                  (refine rqK rfl ?_; (repeat' first | exact rfl | (refine qS ?_; constructor)))
                  · omega
                  · rw [decide_eq_false (by omega)]; rfl
        · rw [decide_eq_false hA] at cA
          rw [setV, show stI r.length [a] = 6 from if_neg hA, if_neg (by decide)]
          refine pi2 fn80 ?_
          (repeat' first | (refine Owe.same ?_; first | refine Owe.o ?_ | refine Owe.mk ?_ ?_) | (refine Fork.same ?_; (first | refine fkD ?_ ?_ | refine fkN ?_ ?_ | refine fkM ?_ ?_) <;> intro h) | ((first | refine OpsL.same ?_ | refine OpsDL.same ?_); first | refine oK c1 rfl rfl rfl ?_ | refine oK c104 rfl rfl rfl ?_ | refine oK C91 rfl rfl rfl ?_) | refine MvQ.stay ?_)
          (repeat' first | (refine Owe.same ?_; first | refine Owe.o ?_ | refine Owe.mk ?_ ?_) | (refine Fork.same ?_; (first | refine fkD ?_ ?_ | refine fkN ?_ ?_ | refine fkM ?_ ?_) <;> intro h) | ((first | refine OpsL.same ?_ | refine OpsDL.same ?_); first | refine pK C90 rfl rfl ?_) | refine MvQ.stay ?_)
          · exact absurd h (by decide)
          refine Ops.cs rfl rfl (CallS.of fn102 rfl ?_)
          (repeat' first | (refine Owe.same ?_; first | refine Owe.o ?_ | refine Owe.mk ?_ ?_) | (refine Fork.same ?_; (first | refine fkD ?_ ?_ | refine fkN ?_ ?_ | refine fkM ?_ ?_) <;> intro h) | refine MvQ.stay ?_)
          refine Sat.lp (fun k : Nat => ⟨[(11, vi .i64 k), (10, vi .i64 1), (9, .c (ints [a])), (1, .c (.fn 134 [1, 3])), (0, .c (ints [a]))], [(3, .box [int (-1)]), (2, .box [int x, int z, trs l, prs b]), (1, .box [trs r]), (0, .box [int x, int z, trs l])], 4⟩)
            (fun k => k = 0) (fun k => 1 - k) 0 [] rfl ?_ ?_
          · (refine qis ?_ ?_ <;> (repeat' first | exact rfl | (refine qS ?_; constructor)))
          · intro k hk
            subst hk
            (repeat' first | (refine Owe.same ?_; first | refine Owe.o ?_ | refine Owe.mk ?_ ?_) | (refine Fork.same ?_; (first | refine fkY ?_ | refine fkF ?_ | ((first | refine fkD ?_ ?_ | refine fkN ?_ ?_ | refine fkM ?_ ?_) <;> intro h))) | ((first | refine OpsL.same ?_ | refine OpsDL.same ?_); first | refine oK c1 rfl rfl rfl ?_) | refine MvQ.stay ?_)
            refine Ops.cs rfl rfl (CallS.of fn134 rfl ?_)
            have c90 := C90 (l := [unb false 6, unb (decide ((-1 : Int) < a)) 9]) (by simp)
            rw [show fstE [unb false 6, unb (decide ((-1 : Int) < a)) 9] = 6 from rfl] at c90
            (repeat' first | (refine Owe.same ?_; first | refine Owe.o ?_ | refine Owe.mk ?_ ?_) | (refine Fork.same ?_; (first | refine fkY ?_ | refine fkF ?_ | ((first | refine fkD ?_ ?_ | refine fkN ?_ ?_ | refine fkM ?_ ?_) <;> intro h))) | ((first | refine OpsL.same ?_ | refine OpsDL.same ?_); first | refine oK cA rfl rfl rfl ?_ | refine oK C91 rfl rfl rfl ?_) | refine MvQ.stay ?_)
            (repeat' first | (refine Owe.same ?_; first | refine Owe.o ?_ | refine Owe.mk ?_ ?_) | (refine Fork.same ?_; (first | refine fkY ?_ | refine fkF ?_ | ((first | refine fkD ?_ ?_ | refine fkN ?_ ?_ | refine fkM ?_ ?_) <;> intro h))) | ((first | refine OpsL.same ?_ | refine OpsDL.same ?_); first | refine pK c90 rfl rfl ?_) | refine MvQ.stay ?_)
            (refine rqK rfl ?_; (repeat' first | exact rfl | (refine qS ?_; constructor)))
      · have cA := C104 (n := a) (lo := 0) (hi := (r.length : Int) - 1)
        have cC := C104 (n := c) (lo := 0) (hi := (r.length : Int) - 1)
        by_cases hA : inI r.length a
        · rw [decide_eq_true hA] at cA
          by_cases hC : inI r.length c
          · rw [decide_eq_true hC] at cC
            by_cases hac : c ≤ a
            · rw [setV, show stI r.length [a, c] = 9 from (if_pos hA).trans ((if_pos hC).trans (if_pos hac)), if_neg (by decide)]
              refine pi2 fn80 ?_
              (repeat' first | (refine Owe.same ?_; first | refine Owe.o ?_ | refine Owe.mk ?_ ?_) | (refine Fork.same ?_; (first | refine fkD ?_ ?_ | refine fkN ?_ ?_ | refine fkM ?_ ?_) <;> intro h) | ((first | refine OpsL.same ?_ | refine OpsDL.same ?_); first | refine oK c1 rfl rfl rfl ?_ | refine oK c104 rfl rfl rfl ?_ | refine oK C91 rfl rfl rfl ?_) | refine MvQ.stay ?_)
              (repeat' first | (refine Owe.same ?_; first | refine Owe.o ?_ | refine Owe.mk ?_ ?_) | (refine Fork.same ?_; (first | refine fkD ?_ ?_ | refine fkN ?_ ?_ | refine fkM ?_ ?_) <;> intro h) | ((first | refine OpsL.same ?_ | refine OpsDL.same ?_); first | refine pK C90 rfl rfl ?_) | refine MvQ.stay ?_)
              · exact absurd h (by decide)
              refine Ops.cs rfl rfl (CallS.of fn102 rfl ?_)
              (repeat' first | (refine Owe.same ?_; first | refine Owe.o ?_ | refine Owe.mk ?_ ?_) | (refine Fork.same ?_; (first | refine fkD ?_ ?_ | refine fkN ?_ ?_ | refine fkM ?_ ?_) <;> intro h) | refine MvQ.stay ?_)
              refine Sat.lp (fun k : Nat => ⟨[(11, vi .i64 k), (10, vi .i64 2), (9, .c (ints [a, c])), (1, .c (.fn 134 [1, 3])), (0, .c (ints [a, c]))], [(3, .box [int (if k = 0 then -1 else a)]), (2, .box [int x, int z, trs l, prs b]), (1, .box [trs r]), (0, .box [int x, int z, trs l])], 4⟩)
                (fun k => k = 0 ∨ k = 1) (fun k => 1 - k) 0 [] (.inl rfl) ?_ ?_
              · (refine qis ?_ ?_ <;> (repeat' first | exact rfl | (refine qS ?_; constructor)))
              · intro k hk
                rcases hk with rfl | rfl
                · (repeat' first | (refine Owe.same ?_; first | refine Owe.o ?_ | refine Owe.mk ?_ ?_) | (refine Fork.same ?_; (first | refine fkY ?_ | refine fkF ?_ | ((first | refine fkD ?_ ?_ | refine fkN ?_ ?_ | refine fkM ?_ ?_) <;> intro h))) | ((first | refine OpsL.same ?_ | refine OpsDL.same ?_); first | refine oK c1 rfl rfl rfl ?_) | refine MvQ.stay ?_)
                  refine Ops.cs rfl rfl (CallS.of fn134 rfl ?_)
                  have c90 := C90 (l := [unb true 6, unb (decide ((-1 : Int) < a)) 9]) (by simp)
                  rw [show fstE [unb true 6, unb (decide ((-1 : Int) < a)) 9] = 0 by rw [decide_eq_true (by have := hA.1; omega)]; rfl] at c90
                  (repeat' first | (refine Owe.same ?_; first | refine Owe.o ?_ | refine Owe.mk ?_ ?_) | (refine Fork.same ?_; (first | refine fkY ?_ | refine fkF ?_ | ((first | refine fkD ?_ ?_ | refine fkN ?_ ?_ | refine fkM ?_ ?_) <;> intro h))) | ((first | refine OpsL.same ?_ | refine OpsDL.same ?_); first | refine oK cA rfl rfl rfl ?_ | refine oK C91 rfl rfl rfl ?_) | refine MvQ.stay ?_)
                  (repeat' first | (refine Owe.same ?_; first | refine Owe.o ?_ | refine Owe.mk ?_ ?_) | (refine Fork.same ?_; (first | refine fkY ?_ | refine fkF ?_ | ((first | refine fkD ?_ ?_ | refine fkN ?_ ?_ | refine fkM ?_ ?_) <;> intro h))) | ((first | refine OpsL.same ?_ | refine OpsDL.same ?_); first | refine pK c90 rfl rfl ?_) | refine MvQ.stay ?_)
                  refine again 1 [] (Or.inr rfl) (by decide) ?_
                  (refine qis ?_ ?_ <;> (repeat' first | exact rfl | (refine qS ?_; constructor)))
                · (repeat' first | (refine Owe.same ?_; first | refine Owe.o ?_ | refine Owe.mk ?_ ?_) | (refine Fork.same ?_; (first | refine fkY ?_ | refine fkF ?_ | ((first | refine fkD ?_ ?_ | refine fkN ?_ ?_ | refine fkM ?_ ?_) <;> intro h))) | ((first | refine OpsL.same ?_ | refine OpsDL.same ?_); first | refine oK c1 rfl rfl rfl ?_) | refine MvQ.stay ?_)
                  refine Ops.cs rfl rfl (CallS.of fn134 rfl ?_)
                  have c90 := C90 (l := [unb true 6, unb (decide (a < c)) 9]) (by simp)
                  rw [show fstE [unb true 6, unb (decide (a < c)) 9] = 9 by rw [decide_eq_false (by omega)]; rfl] at c90
                  (repeat' first | (refine Owe.same ?_; first | refine Owe.o ?_ | refine Owe.mk ?_ ?_) | (refine Fork.same ?_; (first | refine fkY ?_ | refine fkF ?_ | ((first | refine fkD ?_ ?_ | refine fkN ?_ ?_ | refine fkM ?_ ?_) <;> intro h))) | ((first | refine OpsL.same ?_ | refine OpsDL.same ?_); first | refine oK cC rfl rfl rfl ?_ | refine oK C91 rfl rfl rfl ?_) | refine MvQ.stay ?_)
                  (repeat' first | (refine Owe.same ?_; first | refine Owe.o ?_ | refine Owe.mk ?_ ?_) | (refine Fork.same ?_; (first | refine fkY ?_ | refine fkF ?_ | ((first | refine fkD ?_ ?_ | refine fkN ?_ ?_ | refine fkM ?_ ?_) <;> intro h))) | ((first | refine OpsL.same ?_ | refine OpsDL.same ?_); first | refine pK c90 rfl rfl ?_) | refine MvQ.stay ?_)
                  (refine rqK rfl ?_; (repeat' first | exact rfl | (refine qS ?_; constructor)))
            · obtain ⟨i, rfl⟩ : ∃ i : Nat, a = i := ⟨a.toNat, by have := hA.1; omega⟩
              obtain ⟨j, rfl⟩ : ∃ j : Nat, c = j := ⟨c.toNat, by have := hC.1; omega⟩
              have c2 := C133 (a := rd r i) (b := rd r j) ⟨hL, ho i (by omega), ho j (by omega)⟩
              rw [setV, show stI r.length [(i : Int), (j : Int)] = 0 from (if_pos hA).trans ((if_pos hC).trans (if_neg hac)), if_pos rfl]
              change PFD Try.prog 80 _ (.tup [vi .i64 (if 0 < ap2 ⟨x, z, l, b⟩ (rd r i) (rd r j) then (ap2 ⟨x, z, l, b⟩ (rd r i) (rd r j), 0) else (0, 19)).1, vi .i64 (if 0 < ap2 ⟨x, z, l, b⟩ (rd r i) (rd r j) then (ap2 ⟨x, z, l, b⟩ (rd r i) (rd r j), 0) else (0, 19)).2])
              change PFD Try.prog 133 [.agg [int x, int z, trs l, prs b], _, _] _ at c2
              generalize ap2 ⟨x, z, l, b⟩ (rd r i) (rd r j) = W at *
              refine pi2 fn80 ?_
              (repeat' first | (refine Owe.same ?_; first | refine Owe.o ?_ | refine Owe.mk ?_ ?_) | (refine Fork.same ?_; (first | refine fkD ?_ ?_ | refine fkN ?_ ?_ | refine fkM ?_ ?_) <;> intro h) | ((first | refine OpsL.same ?_ | refine OpsDL.same ?_); first | refine oK c1 rfl rfl rfl ?_ | refine oK c104 rfl rfl rfl ?_ | refine oK C91 rfl rfl rfl ?_) | refine MvQ.stay ?_)
              (repeat' first | (refine Owe.same ?_; first | refine Owe.o ?_ | refine Owe.mk ?_ ?_) | (refine Fork.same ?_; (first | refine fkD ?_ ?_ | refine fkN ?_ ?_ | refine fkM ?_ ?_) <;> intro h) | ((first | refine OpsL.same ?_ | refine OpsDL.same ?_); first | refine pK C90 rfl rfl ?_) | refine MvQ.stay ?_)
              · exact absurd h (by decide)
              refine Ops.cs rfl rfl (CallS.of fn102 rfl ?_)
              (repeat' first | (refine Owe.same ?_; first | refine Owe.o ?_ | refine Owe.mk ?_ ?_) | (refine Fork.same ?_; (first | refine fkD ?_ ?_ | refine fkN ?_ ?_ | refine fkM ?_ ?_) <;> intro h) | refine MvQ.stay ?_)
              refine Sat.lp (fun k : Nat => ⟨[(11, vi .i64 k), (10, vi .i64 2), (9, .c (ints [(i : Int), (j : Int)])), (1, .c (.fn 134 [1, 3])), (0, .c (ints [(i : Int), (j : Int)]))], [(3, .box [int (if k = 0 then -1 else if k = 1 then (i : Int) else (j : Int))]), (2, .box [int x, int z, trs l, prs b]), (1, .box [trs r]), (0, .box [int x, int z, trs l])], 4⟩)
                (fun k => k = 0 ∨ k = 1 ∨ k = 2) (fun k => 2 - k) 0 [] (.inl rfl) ?_ ?_
              · (refine qis ?_ ?_ <;> (repeat' first | exact rfl | (refine qS ?_; constructor)))
              · intro k hk
                rcases hk with rfl | rfl | rfl
                · (repeat' first | (refine Owe.same ?_; first | refine Owe.o ?_ | refine Owe.mk ?_ ?_) | (refine Fork.same ?_; (first | refine fkY ?_ | refine fkF ?_ | ((first | refine fkD ?_ ?_ | refine fkN ?_ ?_ | refine fkM ?_ ?_) <;> intro h))) | ((first | refine OpsL.same ?_ | refine OpsDL.same ?_); first | refine oK c1 rfl rfl rfl ?_) | refine MvQ.stay ?_)
                  refine Ops.cs rfl rfl (CallS.of fn134 rfl ?_)
                  have c90 := C90 (l := [unb true 6, unb (decide ((-1 : Int) < (i : Int))) 9]) (by simp)
                  rw [show fstE [unb true 6, unb (decide ((-1 : Int) < (i : Int))) 9] = 0 by rw [decide_eq_true (by have := hA.1; omega)]; rfl] at c90
                  (repeat' first | (refine Owe.same ?_; first | refine Owe.o ?_ | refine Owe.mk ?_ ?_) | (refine Fork.same ?_; (first | refine fkY ?_ | refine fkF ?_ | ((first | refine fkD ?_ ?_ | refine fkN ?_ ?_ | refine fkM ?_ ?_) <;> intro h))) | ((first | refine OpsL.same ?_ | refine OpsDL.same ?_); first | refine oK cA rfl rfl rfl ?_ | refine oK C91 rfl rfl rfl ?_) | refine MvQ.stay ?_)
                  (repeat' first | (refine Owe.same ?_; first | refine Owe.o ?_ | refine Owe.mk ?_ ?_) | (refine Fork.same ?_; (first | refine fkY ?_ | refine fkF ?_ | ((first | refine fkD ?_ ?_ | refine fkN ?_ ?_ | refine fkM ?_ ?_) <;> intro h))) | ((first | refine OpsL.same ?_ | refine OpsDL.same ?_); first | refine pK c90 rfl rfl ?_) | refine MvQ.stay ?_)
                  refine again 1 [] (Or.inr (Or.inl rfl)) (by decide) ?_
                  (refine qis ?_ ?_ <;> (repeat' first | exact rfl | (refine qS ?_; constructor)))
                · (repeat' first | (refine Owe.same ?_; first | refine Owe.o ?_ | refine Owe.mk ?_ ?_) | (refine Fork.same ?_; (first | refine fkY ?_ | refine fkF ?_ | ((first | refine fkD ?_ ?_ | refine fkN ?_ ?_ | refine fkM ?_ ?_) <;> intro h))) | ((first | refine OpsL.same ?_ | refine OpsDL.same ?_); first | refine oK c1 rfl rfl rfl ?_) | refine MvQ.stay ?_)
                  refine Ops.cs rfl rfl (CallS.of fn134 rfl ?_)
                  have c90 := C90 (l := [unb true 6, unb (decide ((i : Int) < j)) 9]) (by simp)
                  rw [show fstE [unb true 6, unb (decide ((i : Int) < j)) 9] = 0 by rw [decide_eq_true (by omega)]; rfl] at c90
                  (repeat' first | (refine Owe.same ?_; first | refine Owe.o ?_ | refine Owe.mk ?_ ?_) | (refine Fork.same ?_; (first | refine fkY ?_ | refine fkF ?_ | ((first | refine fkD ?_ ?_ | refine fkN ?_ ?_ | refine fkM ?_ ?_) <;> intro h))) | ((first | refine OpsL.same ?_ | refine OpsDL.same ?_); first | refine oK cC rfl rfl rfl ?_ | refine oK C91 rfl rfl rfl ?_) | refine MvQ.stay ?_)
                  (repeat' first | (refine Owe.same ?_; first | refine Owe.o ?_ | refine Owe.mk ?_ ?_) | (refine Fork.same ?_; (first | refine fkY ?_ | refine fkF ?_ | ((first | refine fkD ?_ ?_ | refine fkN ?_ ?_ | refine fkM ?_ ?_) <;> intro h))) | ((first | refine OpsL.same ?_ | refine OpsDL.same ?_); first | refine pK c90 rfl rfl ?_) | refine MvQ.stay ?_)
                  refine again 2 [] (Or.inr (Or.inr rfl)) (by decide) ?_
                  (refine qis ?_ ?_ <;> (repeat' first | exact rfl | (refine qS ?_; constructor)))
                · (repeat' first | (refine Owe.same ?_; first | refine Owe.o ?_ | refine Owe.mk ?_ ?_) | (refine Fork.same ?_; (first | refine fkY ?_ | refine fkF ?_ | ((first | refine fkD ?_ ?_ | refine fkN ?_ ?_ | refine fkM ?_ ?_) <;> intro h))) | ((first | refine OpsL.same ?_ | refine OpsDL.same ?_); first | refine oK c2 rfl rfl rfl ?_ | refine oK C91 rfl rfl rfl ?_) | refine MvQ.stay ?_)
                  · change ((0 : Int) ≤ 0 ∧ (0 : Int) < ((2 : Nat) : Int)) ∧ 0 ≤ (i : Int) ∧ (i : Int) < r.length
                    omega
                  · change ((0 : Int) ≤ 1 ∧ (1 : Int) < ((2 : Nat) : Int)) ∧ 0 ≤ (j : Int) ∧ (j : Int) < r.length
                    omega
                  · by_cases hW : 0 < W
                    · rw [if_pos hW]
                      (refine rqK rfl ?_; (repeat' first | exact rfl | (refine qS ?_; constructor)))
                      · omega
                      · rw [decide_eq_true (by omega)]; rfl
                    · rw [if_neg hW]
                      (refine rqK rfl ?_; (repeat' first | exact rfl | (refine qS ?_; constructor)))
                      · omega
                      · rw [decide_eq_false (by omega)]; rfl
          · rw [decide_eq_false hC] at cC
            rw [setV, show stI r.length [a, c] = 6 from (if_pos hA).trans (if_neg hC), if_neg (by decide)]
            refine pi2 fn80 ?_
            (repeat' first | (refine Owe.same ?_; first | refine Owe.o ?_ | refine Owe.mk ?_ ?_) | (refine Fork.same ?_; (first | refine fkD ?_ ?_ | refine fkN ?_ ?_ | refine fkM ?_ ?_) <;> intro h) | ((first | refine OpsL.same ?_ | refine OpsDL.same ?_); first | refine oK c1 rfl rfl rfl ?_ | refine oK c104 rfl rfl rfl ?_ | refine oK C91 rfl rfl rfl ?_) | refine MvQ.stay ?_)
            (repeat' first | (refine Owe.same ?_; first | refine Owe.o ?_ | refine Owe.mk ?_ ?_) | (refine Fork.same ?_; (first | refine fkD ?_ ?_ | refine fkN ?_ ?_ | refine fkM ?_ ?_) <;> intro h) | ((first | refine OpsL.same ?_ | refine OpsDL.same ?_); first | refine pK C90 rfl rfl ?_) | refine MvQ.stay ?_)
            · exact absurd h (by decide)
            refine Ops.cs rfl rfl (CallS.of fn102 rfl ?_)
            (repeat' first | (refine Owe.same ?_; first | refine Owe.o ?_ | refine Owe.mk ?_ ?_) | (refine Fork.same ?_; (first | refine fkD ?_ ?_ | refine fkN ?_ ?_ | refine fkM ?_ ?_) <;> intro h) | refine MvQ.stay ?_)
            refine Sat.lp (fun k : Nat => ⟨[(11, vi .i64 k), (10, vi .i64 2), (9, .c (ints [a, c])), (1, .c (.fn 134 [1, 3])), (0, .c (ints [a, c]))], [(3, .box [int (if k = 0 then -1 else a)]), (2, .box [int x, int z, trs l, prs b]), (1, .box [trs r]), (0, .box [int x, int z, trs l])], 4⟩)
              (fun k => k = 0 ∨ k = 1) (fun k => 1 - k) 0 [] (.inl rfl) ?_ ?_
            · (refine qis ?_ ?_ <;> (repeat' first | exact rfl | (refine qS ?_; constructor)))
            · intro k hk
              rcases hk with rfl | rfl
              · (repeat' first | (refine Owe.same ?_; first | refine Owe.o ?_ | refine Owe.mk ?_ ?_) | (refine Fork.same ?_; (first | refine fkY ?_ | refine fkF ?_ | ((first | refine fkD ?_ ?_ | refine fkN ?_ ?_ | refine fkM ?_ ?_) <;> intro h))) | ((first | refine OpsL.same ?_ | refine OpsDL.same ?_); first | refine oK c1 rfl rfl rfl ?_) | refine MvQ.stay ?_)
                refine Ops.cs rfl rfl (CallS.of fn134 rfl ?_)
                have c90 := C90 (l := [unb true 6, unb (decide ((-1 : Int) < a)) 9]) (by simp)
                rw [show fstE [unb true 6, unb (decide ((-1 : Int) < a)) 9] = 0 by rw [decide_eq_true (by have := hA.1; omega)]; rfl] at c90
                (repeat' first | (refine Owe.same ?_; first | refine Owe.o ?_ | refine Owe.mk ?_ ?_) | (refine Fork.same ?_; (first | refine fkY ?_ | refine fkF ?_ | ((first | refine fkD ?_ ?_ | refine fkN ?_ ?_ | refine fkM ?_ ?_) <;> intro h))) | ((first | refine OpsL.same ?_ | refine OpsDL.same ?_); first | refine oK cA rfl rfl rfl ?_ | refine oK C91 rfl rfl rfl ?_) | refine MvQ.stay ?_)
                (repeat' first | (refine Owe.same ?_; first | refine Owe.o ?_ | refine Owe.mk ?_ ?_) | (refine Fork.same ?_; (first | refine fkY ?_ | refine fkF ?_ | ((first | refine fkD ?_ ?_ | refine fkN ?_ ?_ | refine fkM ?_ ?_) <;> intro h))) | ((first | refine OpsL.same ?_ | refine OpsDL.same ?_); first | refine pK c90 rfl rfl ?_) | refine MvQ.stay ?_)
                refine again 1 [] (Or.inr rfl) (by decide) ?_
                (refine qis ?_ ?_ <;> (repeat' first | exact rfl | (refine qS ?_; constructor)))
              · (repeat' first | (refine Owe.same ?_; first | refine Owe.o ?_ | refine Owe.mk ?_ ?_) | (refine Fork.same ?_; (first | refine fkY ?_ | refine fkF ?_ | ((first | refine fkD ?_ ?_ | refine fkN ?_ ?_ | refine fkM ?_ ?_) <;> intro h))) | ((first | refine OpsL.same ?_ | refine OpsDL.same ?_); first | refine oK c1 rfl rfl rfl ?_) | refine MvQ.stay ?_)
                refine Ops.cs rfl rfl (CallS.of fn134 rfl ?_)
                have c90 := C90 (l := [unb false 6, unb (decide (a < c)) 9]) (by simp)
                rw [show fstE [unb false 6, unb (decide (a < c)) 9] = 6 from rfl] at c90
                (repeat' first | (refine Owe.same ?_; first | refine Owe.o ?_ | refine Owe.mk ?_ ?_) | (refine Fork.same ?_; (first | refine fkY ?_ | refine fkF ?_ | ((first | refine fkD ?_ ?_ | refine fkN ?_ ?_ | refine fkM ?_ ?_) <;> intro h))) | ((first | refine OpsL.same ?_ | refine OpsDL.same ?_); first | refine oK cC rfl rfl rfl ?_ | refine oK C91 rfl rfl rfl ?_) | refine MvQ.stay ?_)
                (repeat' first | (refine Owe.same ?_; first | refine Owe.o ?_ | refine Owe.mk ?_ ?_) | (refine Fork.same ?_; (first | refine fkY ?_ | refine fkF ?_ | ((first | refine fkD ?_ ?_ | refine fkN ?_ ?_ | refine fkM ?_ ?_) <;> intro h))) | ((first | refine OpsL.same ?_ | refine OpsDL.same ?_); first | refine pK c90 rfl rfl ?_) | refine MvQ.stay ?_)
                (refine rqK rfl ?_; (repeat' first | exact rfl | (refine qS ?_; constructor)))
        · rw [decide_eq_false hA] at cA
          rw [setV, show stI r.length [a, c] = 6 from if_neg hA, if_neg (by decide)]
          refine pi2 fn80 ?_
          (repeat' first | (refine Owe.same ?_; first | refine Owe.o ?_ | refine Owe.mk ?_ ?_) | (refine Fork.same ?_; (first | refine fkD ?_ ?_ | refine fkN ?_ ?_ | refine fkM ?_ ?_) <;> intro h) | ((first | refine OpsL.same ?_ | refine OpsDL.same ?_); first | refine oK c1 rfl rfl rfl ?_ | refine oK c104 rfl rfl rfl ?_ | refine oK C91 rfl rfl rfl ?_) | refine MvQ.stay ?_)
          (repeat' first | (refine Owe.same ?_; first | refine Owe.o ?_ | refine Owe.mk ?_ ?_) | (refine Fork.same ?_; (first | refine fkD ?_ ?_ | refine fkN ?_ ?_ | refine fkM ?_ ?_) <;> intro h) | ((first | refine OpsL.same ?_ | refine OpsDL.same ?_); first | refine pK C90 rfl rfl ?_) | refine MvQ.stay ?_)
          · exact absurd h (by decide)
          refine Ops.cs rfl rfl (CallS.of fn102 rfl ?_)
          (repeat' first | (refine Owe.same ?_; first | refine Owe.o ?_ | refine Owe.mk ?_ ?_) | (refine Fork.same ?_; (first | refine fkD ?_ ?_ | refine fkN ?_ ?_ | refine fkM ?_ ?_) <;> intro h) | refine MvQ.stay ?_)
          refine Sat.lp (fun k : Nat => ⟨[(11, vi .i64 k), (10, vi .i64 2), (9, .c (ints [a, c])), (1, .c (.fn 134 [1, 3])), (0, .c (ints [a, c]))], [(3, .box [int (-1)]), (2, .box [int x, int z, trs l, prs b]), (1, .box [trs r]), (0, .box [int x, int z, trs l])], 4⟩)
            (fun k => k = 0) (fun k => 1 - k) 0 [] rfl ?_ ?_
          · (refine qis ?_ ?_ <;> (repeat' first | exact rfl | (refine qS ?_; constructor)))
          · intro k hk
            subst hk
            (repeat' first | (refine Owe.same ?_; first | refine Owe.o ?_ | refine Owe.mk ?_ ?_) | (refine Fork.same ?_; (first | refine fkY ?_ | refine fkF ?_ | ((first | refine fkD ?_ ?_ | refine fkN ?_ ?_ | refine fkM ?_ ?_) <;> intro h))) | ((first | refine OpsL.same ?_ | refine OpsDL.same ?_); first | refine oK c1 rfl rfl rfl ?_) | refine MvQ.stay ?_)
            refine Ops.cs rfl rfl (CallS.of fn134 rfl ?_)
            have c90 := C90 (l := [unb false 6, unb (decide ((-1 : Int) < a)) 9]) (by simp)
            rw [show fstE [unb false 6, unb (decide ((-1 : Int) < a)) 9] = 6 from rfl] at c90
            (repeat' first | (refine Owe.same ?_; first | refine Owe.o ?_ | refine Owe.mk ?_ ?_) | (refine Fork.same ?_; (first | refine fkY ?_ | refine fkF ?_ | ((first | refine fkD ?_ ?_ | refine fkN ?_ ?_ | refine fkM ?_ ?_) <;> intro h))) | ((first | refine OpsL.same ?_ | refine OpsDL.same ?_); first | refine oK cA rfl rfl rfl ?_ | refine oK C91 rfl rfl rfl ?_) | refine MvQ.stay ?_)
            (repeat' first | (refine Owe.same ?_; first | refine Owe.o ?_ | refine Owe.mk ?_ ?_) | (refine Fork.same ?_; (first | refine fkY ?_ | refine fkF ?_ | ((first | refine fkD ?_ ?_ | refine fkN ?_ ?_ | refine fkM ?_ ?_) <;> intro h))) | ((first | refine OpsL.same ?_ | refine OpsDL.same ?_); first | refine pK c90 rfl rfl ?_) | refine MvQ.stay ?_)
            (refine rqK rfl ?_; (repeat' first | exact rfl | (refine qS ?_; constructor)))
  · rw [ckV, if_neg h0]
    have e0 : ∀ y, fstE [opR x z l b r, y] = opR x z l b r := fun y => by simp only [fstE, if_neg h0]
    refine pi2 fn80 ?_
    (repeat' first | (refine Owe.same ?_; first | refine Owe.o ?_ | refine Owe.mk ?_ ?_) | (refine Fork.same ?_; (first | refine fkD ?_ ?_ | refine fkN ?_ ?_ | refine fkM ?_ ?_) <;> intro h) | ((first | refine OpsL.same ?_ | refine OpsDL.same ?_); first | refine oK c1 rfl rfl rfl ?_ | refine oK c104 rfl rfl rfl ?_ | refine oK C91 rfl rfl rfl ?_) | refine MvQ.stay ?_)
    (repeat' first | (refine Owe.same ?_; first | refine Owe.o ?_ | refine Owe.mk ?_ ?_) | (refine Fork.same ?_; (first | refine fkD ?_ ?_ | refine fkN ?_ ?_ | refine fkM ?_ ?_) <;> intro h) | ((first | refine OpsL.same ?_ | refine OpsDL.same ?_); first | refine pK C90 rfl rfl ?_) | refine MvQ.stay ?_)
    · (refine rqK rfl ?_; (repeat' first | exact rfl | (refine qS ?_; constructor)))
      exact e0 _
    · exact absurd ((e0 _).symm.trans h) h0
end Go.Pw

set_option linter.unusedSimpArgs false
set_option linter.unusedVariables false
namespace Go.Pw
set_option maxRecDepth 2000
open Go Go.Proofs A1 A2 A3 A4
section
variable {x z : Int} {l : List Lk} {b inn : List Rg} {c : List Int}
theorem Within3.diff (h : Within3 l b inn c) (hL : (Ln.mk x z l b).Ok) {i : Nat} : ∀ k, i ≤ k → k ≤ l.length →
    (opL x z l c).pl k - (opL x z l c).pl i ≤ (Ln.mk x z l b).ph k - (Ln.mk x z l b).ph i ∧ (Ln.mk x z l b).pl k - (Ln.mk x z l b).pl i ≤ (opL x z l c).pl k - (opL x z l c).pl i
  | 0, hik, _ => by
    have : i = 0 := by omega
    subst this; omega
  | k + 1, hik, hk => by
    rcases Nat.lt_or_ge k i with h1 | h1
    · have : i = k + 1 := by omega
      subst this; omega
    · have ih := h.diff hL (i := i) k h1 (by omega)
      have hd : 0 ≤ (l.getD k (0, 0, 0)).2.2 := (hL.lk (k := k) (by show k < l.length; omega)).2.2.1
      have hw := h.h k (by omega)
      have m1 := Int.mul_le_mul_of_nonneg_left (show c.getD k 0 ≤ (b.getD k (0, 0)).2 by omega) hd
      have m2 := Int.mul_le_mul_of_nonneg_left (show (b.getD k (0, 0)).1 ≤ c.getD k 0 by omega) hd
      have e1 : (opL x z l c).pl (k + 1) = (opL x z l c).pl k + (l.getD k (0, 0, 0)).2.2 * c.getD k 0 := by
        show (opL x z l c).pl k + (l.getD k (0, 0, 0)).2.2 * ((c.map dup).getD k (0, 0)).1 = _
        rw [dup_get (by rw [h.lc]; omega)]
      have e2 : (Ln.mk x z l b).ph (k + 1) = (Ln.mk x z l b).ph k + (l.getD k (0, 0, 0)).2.2 * (b.getD k (0, 0)).2 := rfl
      have e3 : (Ln.mk x z l b).pl (k + 1) = (Ln.mk x z l b).pl k + (l.getD k (0, 0, 0)).2.2 * (b.getD k (0, 0)).1 := rfl
      omega
/-- A reading around a tension. -/
def arF (O : Ln) (i : Nat) : Lk := ((i : Int), max (-20000) (O.pl (i + 1) - i), min 20000 (O.pl (i + 1) + 2 * i))
theorem arF_ok (hO : (opL x z l c).Ok) {i : Nat} (hi : i < l.length) : rdOk l.length (arF (opL x z l c) i) := by
  have hb := hO.bd (i + 1) hi
  simp only [rdOk, arF]
  omega
theorem Within3.ap1 (h : Within3 l b inn c) (hL : (Ln.mk x z l b).Ok) (hO : (opL x z l c).Ok) {i : Nat} (hi : i < l.length) : ¬ 0 < ap1 ⟨x, z, l, b⟩ (arF (opL x z l c) i) := by
  have hb := hO.bd (i + 1) hi
  have hb2 := hL.bd (i + 1) hi
  have ho := h.ord hL (k := i + 1) hi
  simp only [Pw.ap1, dsI, rdI, plF, arF, Int.toNat_natCast]
  omega
theorem Within3.ap2 (h : Within3 l b inn c) (hL : (Ln.mk x z l b).Ok) (hO : (opL x z l c).Ok) {i k : Nat} (hik : i < k) (hk : k < l.length) : ¬ 0 < ap2 ⟨x, z, l, b⟩ (arF (opL x z l c) i) (arF (opL x z l c) k) := by
  have hb := hO.bd (i + 1) (show i + 1 ≤ l.length by omega)
  have hbk := hO.bd (k + 1) hk
  have hd := h.diff hL (i := i + 1) (k + 1) (by omega) hk
  rw [Pw.ap2, if_neg (by simp only [arF]; omega)]
  simp only [ap2', dsI, wlk, arF, Int.toNat_natCast]
  omega
end
theorem rdsE_acc {O : Ln} {n m : Nat} (hm : m ≤ 12) (h : ∀ i, i < m → rdOk n (arF O i)) : rdsE n (accL (arF O) m) = 0 := rdsE_ok.2 ⟨by rw [accL_len]; exact hm, fun i hi => by
  rw [accL_len] at hi
  rw [accL_get _ hi]; exact h i hi⟩
theorem single_con {L : Ln} {o : Lk} : (0 < Pw.ap1 L o → CnR L [o] [0]) ∧ (¬ 0 < Pw.ap1 L o → CnR L [o] []) :=
  ⟨fun h => .one 0 (by simp) h fun j hj => absurd hj (Nat.not_lt_zero _), fun h => .non (fun j hj => by
    have : j = 0 := by simp at hj; exact hj
    subst this; exact h) fun i k hik hk => by simp at hk; omega⟩
theorem single_ok {n : Nat} {o : Lk} (h : rdOk n o) : rdsE n [o] = 0 := rdsE_ok.2 ⟨by simp, fun i hi => by
  have : i = 0 := by simp at hi; exact hi
  subst this; exact h⟩
theorem CEq.app3 {l l' : List Lk} {a b c : Int} (hl : l' = l ++ [(a, b, c)]) : CEq (.d (.sl 3 (l.length + 1) (fun i => if i < l.length then r3 (l.getD i (0, 0, 0)) else ([[dI a, dI b, dI c]].getD (i - l.length) [])))) (trs l') := by
  subst hl
  refine CEq.sl (by simp) fun i hi => ?_
  by_cases h : i < l.length
  · rw [if_pos h, List.getD_eq_getElem?_getD (l := l ++ _), List.getElem?_append_left h, ← List.getD_eq_getElem?_getD]
  · have : i = l.length := by omega
    subst this
    rw [if_neg h, Nat.sub_self, List.getD_eq_getElem?_getD (l := l ++ _), List.getElem?_append_right (Nat.le_refl _), Nat.sub_self]; rfl
theorem gD_app {l : List Lk} {o : Lk} {j : Nat} (h : j < l.length) : rd (l ++ [o]) j = rd l j := by
  rw [rd, List.getD_eq_getElem?_getD, List.getElem?_append_left h, ← List.getD_eq_getElem?_getD]
theorem gD_last {l : List Lk} {o : Lk} : rd (l ++ [o]) l.length = o := by
  rw [rd, List.getD_eq_getElem?_getD, List.getElem?_append_right (Nat.le_refl _), Nat.sub_self]; rfl
end Go.Pw

set_option linter.unusedSimpArgs false
set_option linter.unusedVariables false
namespace Go.Pw
set_option maxRecDepth 2000
open Go Go.Proofs A1 A2 A3 A4
set_option maxHeartbeats 8000000 in
theorem C13 {x z : Int} {l : List Lk} {b : List Rg} {ps : List Int} {r : List Lk} (hw : ∀ i, i < ps.length → w64 (ps.getD i 0)) : PFD Try.prog 13 [.agg [int x, int z, trs l], .c (prs b), .agg [ints ps, trs r]] (vbl true) := by
  by_cases hf : ((l.length ≤ 12 ∧ (b.length : Int) ≤ 14) ∧ ps.length ≤ 20) ∧ r.length ≤ 12
  · have hlc : l.length ≤ 1000000 ∧ b.length ≤ 1000000 := by omega
    have c1 := C35 (x := x) (z := z) (l := l) (by omega)
    have c2 := C72 (x := x) (z := z) (l := l) (b := b) (by omega)
    have c3 := C81 (x := x) (z := z) (l := l) (r := r) (by omega)
    by_cases h0 : (lineE x z l).2 = 0
    · rw [h0] at c1
      by_cases h1 : (boxE l.length b).2 = 0
      · rw [h1] at c2
        by_cases h2 : rdsE l.length r = 0
        · rw [h2] at c3
          have h01 := lineE_ok.1 h0
          have ho := lb_ok h01 h1
          have hL : (Ln.mk x z l b).Ok := lbE_ok ho
          have hbl : b.length = l.length := hL.b
          have hn : 0 < l.length ∧ l.length ≤ 10 := hL.k.n
          have hW := within_of (ps := ps) hL
          obtain ⟨hc0, hi0⟩ := hW.errs hL
          obtain ⟨ho1, ho2, hO⟩ := opn_of h01 hc0
          have hrg : ∀ i, i < l.length → (-50 ≤ (b.getD i (0, 0)).1 ∧ (b.getD i (0, 0)).1 ≤ 50) ∧ (-50 ≤ (b.getD i (0, 0)).2 ∧ (b.getD i (0, 0)).2 ≤ 50) ∧ (b.getD i (0, 0)).1 ≤ (b.getD i (0, 0)).2 := fun i hi => hL.rg hi
          refine pi1 fn13 ?_
          (repeat' first | (refine Owe.same ?_; first | refine Owe.o ?_ | refine Owe.mk ?_ ?_) | (refine Fork.same ?_; (first | refine fkY ?_ | refine fkF ?_ | ((first | refine fkD ?_ ?_ | refine fkN ?_ ?_ | refine fkM ?_ ?_) <;> intro h))) | ((first | refine OpsL.same ?_ | refine OpsDL.same ?_); first | refine oK C15 rfl rfl rfl ?_ | refine oK C28 rfl rfl rfl ?_ | refine oK c1 rfl rfl rfl ?_ | refine oK c2 rfl rfl rfl ?_ | refine oK c3 rfl rfl rfl ?_) | refine MvQ.stay ?_)
          refine Sat.nilS 7 3 1 (fun i => r1 (([] : List Int).getD i 0)) rfl ?_
          refine Sat.lp (fun k : Nat => ⟨[(8, vi .i64 k), (7, .c (.ms 2 (accL (cuF ps b) k).length)), (3, .c (.bp 0 0)), (5, .c (.bp 1 0)), (1, .c (prs b))],
              [(2, rowv 3 1 r1 0 (accL (cuF ps b) k)), (1, .box [ints ps, trs r]), (0, .box [int x, int z, trs l])], 3⟩)
            (fun k => k ≤ b.length) (fun k => b.length - k) 0 [0, 1, 2] (Nat.zero_le _) ?_ ?_
          · (refine qis ?_ ?_ <;> (repeat' first | exact rfl | (refine qS ?_; constructor)))
          · intro k hk
            have hm1 := accL_len (cuF ps b) k
            have hm4 := accL_succ (cuF ps b) k
            refine Fork.dec (fun hlt => ?_) (fun hlt => ?_)
            · have hlt : k < b.length := by omega
              have hr := hrg k (by omega)
              have hkb := kfI_bd (ps := ps) hr.2.2
              by_cases hp : 0 < ps.length
              · have hmd : 0 ≤ (k : Int).tmod ps.length ∧ (k : Int).tmod ps.length < ps.length := ⟨Int.tmod_nonneg _ (by omega), Int.tmod_lt_of_pos _ (by omega)⟩
                have hwk := hw ((k : Int).tmod ps.length).toNat (by omega)
                have c4 := C67w (n := ps.getD ((k : Int).tmod ps.length).toNat 0) (b := (b.getD k (0, 0)).2 - (b.getD k (0, 0)).1 + 1) ⟨hwk, by omega, by simp only [Md]; omega⟩
                have ek : kfI ps b k = ps.getD ((k : Int).tmod ps.length).toNat 0 % ((b.getD k (0, 0)).2 - (b.getD k (0, 0)).1 + 1) := if_pos hp
                rw [← ek] at c4
                simp only [cuF] at hm4
                generalize kfI ps b k = K at *
                (repeat' first | (refine Owe.same ?_; first | refine Owe.o ?_ | refine Owe.mk ?_ ?_) | (refine Fork.same ?_; (first | refine fkY ?_ | refine fkF ?_ | ((first | refine fkD ?_ ?_ | refine fkN ?_ ?_ | refine fkM ?_ ?_) <;> intro h))) | ((first | refine OpsL.same ?_ | refine OpsDL.same ?_); first | refine oK c4 rfl rfl rfl ?_) | refine MvQ.stay ?_)
                refine again (k + 1) [0, 1, 25] (by omega) (by omega) ?_
                (refine qis ?_ ?_ <;> (repeat' first | exact rfl | (refine qS ?_; constructor)))
                · rw [hm4]; simp
                · exact hm4
              · have ek : kfI ps b k = 0 := if_neg hp
                simp only [cuF, ek] at hm4
                have hq : (0 : Int).tdiv 2 = 0 := rfl
                (repeat' first | (refine Owe.same ?_; first | refine Owe.o ?_ | refine Owe.mk ?_ ?_) | (refine Fork.same ?_; (first | refine fkY ?_ | refine fkF ?_ | ((first | refine fkD ?_ ?_ | refine fkN ?_ ?_ | refine fkM ?_ ?_) <;> intro h))) | ((first | refine OpsL.same ?_ | refine OpsDL.same ?_); first | refine oK c2 rfl rfl rfl ?_) | refine MvQ.stay ?_)
                refine again (k + 1) [0, 1, 3] (by omega) (by omega) ?_
                (refine qis ?_ ?_ <;> (repeat' first | exact rfl | (refine qS ?_; constructor)))
                · rw [hm4]; simp
                · exact hm4
            · have : k = b.length := by omega
              subst this
              (repeat' first | (refine Owe.same ?_; first | refine Owe.o ?_ | refine Owe.mk ?_ ?_) | (refine Fork.same ?_; (first | refine fkD ?_ ?_ | refine fkN ?_ ?_ | refine fkM ?_ ?_) <;> intro h))
              refine MvQ.frz 7 _ rfl rfl (Nat.le_refl _) ?_
              have lc := accL_len (cuF ps b) b.length
              have d1 := C29 (x := x) (z := z) (l := l) (c := accL (cuF ps b) b.length) (by omega)
              have d2 := C68 (x := x) (z := z) (l := l) (b := b) hlc
              rw [ho1, orE, if_pos rfl, ho2] at d1
              rw [ho, orE, if_pos rfl] at d2
              change PFD Try.prog 29 _ (.tup [.c (prs (accL (tnF (opL x z l (accL (cuF ps b) b.length))) l.length)), _]) at d1
              have q1 := accL_len (tnF (opL x z l (accL (cuF ps b) b.length))) l.length
              have q2 := accL_len (plF ⟨x, z, l, b⟩) l.length
              have hX : ∀ k, k < l.length → ((accL (tnF (opL x z l (accL (cuF ps b) b.length))) l.length).getD k (0, 0)).1 = (opL x z l (accL (cuF ps b) b.length)).pl (k + 1) := fun k hk => by rw [accL_get _ hk]
              have hP : (accL (plF ⟨x, z, l, b⟩) l.length).getD (l.length - 1) (0, 0) = plF ⟨x, z, l, b⟩ (l.length - 1) := accL_get _ (by omega)
              have hbd : ∀ k, k < l.length → _ := fun k hk => (hO.bd (k + 1) hk).1
              have hbL := hL.bd (l.length - 1 + 1) (show l.length - 1 + 1 ≤ l.length by omega)
              have hro := fun i (hi : i < l.length) => arF_ok hO hi
              have hr1 := fun i (hi : i < l.length) => hW.ap1 hL hO hi
              have hr2 := fun i k (hik : i < k) (hk : k < l.length) => hW.ap2 hL hO hik hk
              generalize accL (tnF (opL x z l (accL (cuF ps b) b.length))) l.length = T at *
              generalize accL (plF ⟨x, z, l, b⟩) l.length = P at *
              generalize opL x z l (accL (cuF ps b) b.length) = O at *
              (repeat' first | (refine Owe.same ?_; first | refine Owe.o ?_ | refine Owe.mk ?_ ?_) | (refine Fork.same ?_; (first | refine fkY ?_ | refine fkF ?_ | ((first | refine fkD ?_ ?_ | refine fkN ?_ ?_ | refine fkM ?_ ?_) <;> intro h))) | ((first | refine OpsL.same ?_ | refine OpsDL.same ?_); first | refine oK C30 rfl rfl rfl ?_ | refine oK C48 rfl rfl rfl ?_ | refine oK d1 rfl rfl rfl ?_ | refine oK d2 rfl rfl rfl ?_) | refine MvQ.stay ?_)
              refine Sat.nilS 14 124 3 (fun i => r3 (([] : List Lk).getD i (0, 0, 0))) rfl ?_
              refine Sat.lp (fun k : Nat => ⟨[(15, vi .i64 k), (14, .c (.ms 2 (accL (arF O) k).length)), (10, .c (prs T)), (12, .c (prs P)), (3, .c (.bp 0 0)), (5, .c (.bp 1 0)), (1, .c (prs b))],
                  [(2, rowv 124 3 r3 (0, 0, 0) (accL (arF O) k)), (1, .box [ints ps, trs r]), (0, .box [int x, int z, trs l])], 3⟩)
                (fun k => k ≤ l.length) (fun k => l.length - k) 0 [0, 1, 3] (Nat.zero_le _) ?_ ?_
              · (refine qis ?_ ?_ <;> (repeat' first | exact rfl | (refine qS ?_; constructor)))
              · intro k hk
                have hm1 := accL_len (arF O) k
                have hm4 := accL_succ (arF O) k
                refine Fork.dec (fun hlt => ?_) (fun hlt => ?_)
                · have hlt : k < l.length := by omega
                  have hXk := hX k hlt
                  have hbk := hbd k hlt
                  rw [← hXk] at hbk
                  simp only [arF] at hm4
                  rw [← hXk] at hm4
                  (repeat' first | (refine Owe.same ?_; first | refine Owe.o ?_ | refine Owe.mk ?_ ?_) | (refine Fork.same ?_; (first | refine fkY ?_ | refine fkF ?_ | ((first | refine fkD ?_ ?_ | refine fkN ?_ ?_ | refine fkM ?_ ?_) <;> intro h))) | ((first | refine OpsL.same ?_ | refine OpsDL.same ?_); first | refine oK d1 rfl rfl rfl ?_) | refine MvQ.stay ?_)
                  refine again (k + 1) [0, 1, 28] hlt (by omega) ?_
                  (refine qis ?_ ?_ <;> (repeat' first | exact rfl | (refine qS ?_; constructor)))
                  · rw [hm4]; simp
                  · exact hm4
                · have : k = l.length := by omega
                  subst this
                  have hR : ∀ r', rdsE l.length r' = 0 → opR x z l b r' = 0 := fun r' h => (if_pos ho).trans h
                  have hr0 := rdsE_acc (O := O) (n := l.length) (m := l.length) (by omega) hro
                  have con0 : CnR ⟨x, z, l, b⟩ (accL (arF O) l.length) [] := by
                    refine Con.non (fun j hj => ?_) fun i k hik hk => ?_
                    · rw [hm1] at hj
                      rw [show rd (accL (arF O) l.length) j = arF O j from accL_get _ hj]; exact hr1 j hj
                    · rw [hm1] at hk
                      rw [show rd (accL (arF O) l.length) i = arF O i from accL_get _ (by omega), show rd (accL (arF O) l.length) k = arF O k from accL_get _ hk]; exact hr2 i k hik hk
                  have e1 := C78 (x := x) (z := z) (l := l) (b := b) (r := accL (arF O) l.length) (s := []) ⟨by omega, fun _ => con0⟩
                  rw [orE, if_pos (hR _ hr0), if_pos (hR _ hr0), if_pos rfl] at e1
                  (repeat' first | (refine Owe.same ?_; first | refine Owe.o ?_ | refine Owe.mk ?_ ?_) | (refine Fork.same ?_; (first | refine fkY ?_ | refine fkF ?_ | ((first | refine fkD ?_ ?_ | refine fkN ?_ ?_ | refine fkM ?_ ?_) <;> intro h))) | ((first | refine OpsL.same ?_ | refine OpsDL.same ?_); first | refine oK C30 rfl rfl rfl ?_ | refine oK C48 rfl rfl rfl ?_) | refine MvQ.stay ?_)
                  refine Ops.cs rfl rfl (CallS.of fn79 rfl ?_)
                  have e9 : ((T.length : Int) - 1).toNat = l.length - 1 := by omega
                  have hraw : P.getD ((T.length : Int) - 1).toNat (0, 0) = plF ⟨x, z, l, b⟩ (l.length - 1) := by rw [e9]; exact hP
                  have hph : (P.getD ((T.length : Int) - 1).toNat (0, 0)).2 = (Ln.mk x z l b).ph (l.length - 1 + 1) := by rw [hraw]
                  have hok : ∀ i, i < r.length → rdOk l.length (rd r i) := (rdsE_ok.1 h2).2
                  by_cases hh : (P.getD ((T.length : Int) - 1).toNat (0, 0)).2 < 20000
                  focus (
                    have hl0 : (accL (arF O) l.length).length = l.length := hm1
                    generalize hA : accL (arF O) l.length = A at *
                    generalize hQ : ((T.length : Int) - 1, (P.getD ((T.length : Int) - 1).toNat (0, 0)).2 + 1, (20000 : Int)) = Q at *
                    have hQ1 : Q.1 = (T.length : Int) - 1 := by rw [← hQ]
                    have hQ2 : Q.2.1 = (P.getD ((T.length : Int) - 1).toNat (0, 0)).2 + 1 := by rw [← hQ]
                    have hQ3 : Q.2.2 = 20000 := by rw [← hQ]
                    have hl1 : (A ++ [Q]).length = l.length + 1 := by rw [List.length_append, hl0]; rfl
                    have hgl : ∀ j, j < l.length → rd (A ++ [Q]) j = arF O j := fun j hj => by
                      rw [gD_app (by omega), ← hA]; exact accL_get _ hj
                    have hgq : rd (A ++ [Q]) l.length = Q := by rw [← hl0]; exact gD_last
                    have ok9 : rdOk l.length Q := ⟨by rw [hQ1]; omega, by rw [hQ2, hQ3]; omega, by rw [hQ2, hQ3]; omega⟩
                    have hrds : rdsE l.length (A ++ [Q]) = 0 := rdsE_ok.2 ⟨by omega, fun i hi => by
                      rcases Nat.lt_or_ge i l.length with h9 | h9
                      · have := hgl i h9
                        show rdOk l.length (rd (A ++ [Q]) i)
                        rw [this]; exact hro i h9
                      · have : i = l.length := by omega
                        subst this
                        show rdOk l.length (rd (A ++ [Q]) l.length)
                        rw [hgq]; exact ok9⟩
                    have ap9 : ap1 ⟨x, z, l, b⟩ Q = 1 := by
                      have e8 : Q.1.toNat + 1 = l.length - 1 + 1 := by rw [hQ1]; omega
                      simp only [ap1, dsI, rdI, plF]
                      rw [e8, hQ2, hQ3]
                      omega
                    have con1 : CnR ⟨x, z, l, b⟩ (A ++ [Q]) [(l.length : Int)] := Con.one l.length (by omega) (by rw [hgq, ap9]; decide) fun j hj => by rw [hgl j hj]; exact hr1 j hj
                    have e2 := C78 (x := x) (z := z) (l := l) (b := b) (r := A ++ [Q]) (s := [(l.length : Int)]) ⟨by omega, fun _ => con1⟩
                    have e3 := C80 (x := x) (z := z) (l := l) (b := b) (r := A ++ [Q]) (s := [(l.length : Int)]) ⟨by omega, by simp⟩
                    rw [orE, if_pos (hR _ hrds), if_pos (hR _ hrds), if_neg (by simp)] at e2
                    rw [ckV, if_pos (hR _ hrds), setV, show stI (A ++ [Q]).length [(l.length : Int)] = 0 from if_pos ⟨by omega, by omega⟩, if_pos rfl,
                      show apS ⟨x, z, l, b⟩ (A ++ [Q]) [(l.length : Int)] = ap1 ⟨x, z, l, b⟩ (rd (A ++ [Q]) l.length) from rfl, hgq, ap9, if_pos (by decide)] at e3
                    have hE : ((A.length + 1 : Nat) : Int) - 1 = (l.length : Int) := by omega
                    have cQ : CEq (.d (.sl 3 (A.length + 1) (fun i => if i < A.length then r3 (A.getD i (0, 0, 0)) else ([[dI ((T.length : Int) - 1), dI ((P.getD ((T.length : Int) - 1).toNat (0, 0)).2 + 1), dI 20000]].getD (i - A.length) [])))) (trs (A ++ [Q])) := CEq.app3 (by rw [hQ])
                    have e2 := e2.ri' (.cons (RI.refl _) (.cons (RI.refl _) (.cons (VEq.ri (VEq.c _ _ cQ)) .nil)))
                    have e3 := e3.ri' (.cons (RI.refl _) (.cons (RI.refl _) (.cons (VEq.ri (VEq.c _ _ cQ)) (.cons (RI.refl _) .nil))))
                    rw [← hE] at e3
                    have c26 := C26 (l := [(l.length : Int)]) (m := [((A.length + 1 : Nat) : Int) - 1]) (by simp)
                    rw [decide_eq_true (by rw [hE])] at c26
                    (repeat' first | (refine Owe.same ?_; first | refine Owe.o ?_ | refine Owe.mk ?_ ?_) | (refine Fork.same ?_; (first | refine fkY ?_ | refine fkF ?_ | ((first | refine fkD ?_ ?_ | refine fkN ?_ ?_ | refine fkM ?_ ?_) <;> intro h))) | ((first | refine OpsL.same ?_ | refine OpsDL.same ?_); first | refine oK C30 rfl rfl rfl ?_ | refine oK C48 rfl rfl rfl ?_ | refine oK e1 rfl rfl rfl ?_) | refine MvQ.stay ?_)
                    refine Ops.cs rfl rfl (CallS.of fn79 rfl ?_)
                    (repeat' first | (refine Owe.same ?_; first | refine Owe.o ?_ | refine Owe.mk ?_ ?_) | (refine Fork.same ?_; (first | refine fkY ?_ | refine fkF ?_ | ((first | refine fkD ?_ ?_ | refine fkN ?_ ?_ | refine fkM ?_ ?_) <;> intro h))) | ((first | refine OpsL.same ?_ | refine OpsDL.same ?_); first | refine oK C30 rfl rfl rfl ?_ | refine oK C48 rfl rfl rfl ?_ | refine oK e2 rfl rfl rfl ?_) | refine MvQ.stay ?_)
                    refine OpsL.frz 226 _ rfl rfl (Nat.le_refl _) ?_
                    (repeat' first | (refine Owe.same ?_; first | refine Owe.o ?_ | refine Owe.mk ?_ ?_) | (refine Fork.same ?_; (first | refine fkY ?_ | refine fkF ?_ | ((first | refine fkD ?_ ?_ | refine fkN ?_ ?_ | refine fkM ?_ ?_) <;> intro h))) | ((first | refine OpsL.same ?_ | refine OpsDL.same ?_); first | refine pK C30 rfl rfl ?_ | refine pK C48 rfl rfl ?_ | refine pK e3 rfl rfl ?_ | refine pK c26 rfl rfl ?_) | refine MvQ.stay ?_))
                  rotate_left
                  focus ((repeat' first | (refine Owe.same ?_; first | refine Owe.o ?_ | refine Owe.mk ?_ ?_) | (refine Fork.same ?_; (first | refine fkY ?_ | refine fkF ?_ | ((first | refine fkD ?_ ?_ | refine fkN ?_ ?_ | refine fkM ?_ ?_) <;> intro h))) | ((first | refine OpsL.same ?_ | refine OpsDL.same ?_); first | refine oK C30 rfl rfl rfl ?_ | refine oK C48 rfl rfl rfl ?_ | refine oK e1 rfl rfl rfl ?_) | refine MvQ.stay ?_))
                  all_goals
                    obtain ⟨s, hs⟩ := Con.exists (fun i => 0 < ap1 ⟨x, z, l, b⟩ (rd r i)) (fun i k => 0 < ap2 ⟨x, z, l, b⟩ (rd r i) (rd r k)) r.length
                    have g1 := C78 (x := x) (z := z) (l := l) (b := b) (r := r) (s := s) ⟨by omega, fun _ => hs⟩
                    have g2 := C80 (x := x) (z := z) (l := l) (b := b) (r := r) (s := s) ⟨by omega, by have := hs.len; omega⟩
                    rw [orE, if_pos (hR _ h2), if_pos (hR _ h2)] at g1
                    rw [ckV, if_pos (hR _ h2)] at g2
                    cases hs with
                    | non =>
                      rw [if_pos rfl] at g1
                      (repeat' first | (refine Owe.same ?_; first | refine Owe.o ?_ | refine Owe.mk ?_ ?_) | (refine Fork.same ?_; (first | refine fkY ?_ | refine fkF ?_ | ((first | refine fkD ?_ ?_ | refine fkN ?_ ?_ | refine fkM ?_ ?_) <;> intro h))) | ((first | refine OpsL.same ?_ | refine OpsDL.same ?_); first | refine oK C30 rfl rfl rfl ?_ | refine oK C48 rfl rfl rfl ?_ | refine oK C79 rfl rfl rfl ?_ | refine oK g1 rfl rfl rfl ?_) | refine MvQ.stay ?_)
                      (refine rqK rfl ?_; (repeat' first | exact rfl | (refine qS ?_; constructor)))
                    | one i hi hpi =>
                      rw [if_neg (by simp)] at g1
                      have hin : inI r.length (i : Int) := ⟨by omega, by omega⟩
                      rw [setV, show stI r.length [(i : Int)] = 0 from if_pos hin, if_pos rfl, show apS ⟨x, z, l, b⟩ r [(i : Int)] = ap1 ⟨x, z, l, b⟩ (rd r i) from rfl, if_pos hpi] at g2
                      have g3 := C78 (x := x) (z := z) (l := l) (b := b) (r := [rd r i]) (s := [0]) ⟨⟨by omega, by omega, by simp⟩, fun _ => single_con.1 hpi⟩
                      have hok1 := hR _ (single_ok (hok i hi))
                      rw [orE, if_pos hok1, if_pos hok1, if_neg (by simp)] at g3
                      have c5 := C16 (n := (i : Int)) (lo := 0) (hi := (r.length : Int) - 1)
                      rw [decide_eq_true hin] at c5
                      generalize ap1 ⟨x, z, l, b⟩ (rd r i) = W at *
                      (repeat' first | (refine Owe.same ?_; first | refine Owe.o ?_ | refine Owe.mk ?_ ?_) | (refine Fork.same ?_; (first | refine fkY ?_ | refine fkF ?_ | ((first | refine fkD ?_ ?_ | refine fkN ?_ ?_ | refine fkM ?_ ?_) <;> intro h))) | ((first | refine OpsL.same ?_ | refine OpsDL.same ?_); first | refine oK C30 rfl rfl rfl ?_ | refine oK C31 rfl rfl rfl ?_ | refine oK C48 rfl rfl rfl ?_ | refine oK C79 rfl rfl rfl ?_ | refine oK g1 rfl rfl rfl ?_ | refine oK g2 rfl rfl rfl ?_) | refine MvQ.stay ?_)
                      refine Sat.lp (fun j : Nat => ⟨[(29, vi .i64 j), (24, .c (ints [(i : Int)])), (3, .c (.bp 0 0)), (5, .c (.bp 1 0)), (1, .c (prs b))], [(1, .box [ints ps, trs r]), (0, .box [int x, int z, trs l])], 2⟩)
                        (fun j => j = 0 ∨ j = 1) (fun j => 1 - j) 0 [0, 1] (.inl rfl) ?_ ?_
                      · (refine qis ?_ ?_ <;> (repeat' first | exact rfl | (refine qS ?_; constructor)))
                      · intro j hj
                        rcases hj with rfl | rfl
                        · (repeat' first | (refine Owe.same ?_; first | refine Owe.o ?_ | refine Owe.mk ?_ ?_) | (refine Fork.same ?_; (first | refine fkY ?_ | refine fkF ?_ | ((first | refine fkD ?_ ?_ | refine fkN ?_ ?_ | refine fkM ?_ ?_) <;> intro h))) | ((first | refine OpsL.same ?_ | refine OpsDL.same ?_); first | refine pK C30 rfl rfl ?_ | refine pK C48 rfl rfl ?_ | refine pK c5 rfl rfl ?_ | refine pK g3 rfl rfl ?_) | refine MvQ.stay ?_)
                          · change (((0 : Int) ≤ 0 ∧ (0 : Int) < ((1 : Nat) : Int)) ∧ 0 ≤ (i : Int) ∧ (i : Int) < r.length) ∧ True
                            refine ⟨by omega, trivial⟩
                          · refine again 1 [0, 1] (.inr rfl) (by decide) ?_
                            (refine qis ?_ ?_ <;> (repeat' first | exact rfl | (refine qS ?_; constructor)))
                        · (repeat' first | (refine Owe.same ?_; first | refine Owe.o ?_ | refine Owe.mk ?_ ?_) | (refine Fork.same ?_; (first | refine fkY ?_ | refine fkF ?_ | ((first | refine fkD ?_ ?_ | refine fkN ?_ ?_ | refine fkM ?_ ?_) <;> intro h))) | ((first | refine OpsL.same ?_ | refine OpsDL.same ?_); first | refine oK C30 rfl rfl rfl ?_) | refine MvQ.stay ?_)
                          (refine rqK rfl ?_; (repeat' first | exact rfl | (refine qS ?_; constructor)))
                    | two i k hn9 hik hkr hpi =>
                      rw [if_neg (by simp)] at g1
                      have hin : inI r.length (i : Int) := ⟨by omega, by omega⟩
                      have hin2 : inI r.length (k : Int) := ⟨by omega, by omega⟩
                      rw [setV, show stI r.length [(i : Int), (k : Int)] = 0 from (if_pos hin).trans ((if_pos hin2).trans (if_neg (by omega))), if_pos rfl, show apS ⟨x, z, l, b⟩ r [(i : Int), (k : Int)] = ap2 ⟨x, z, l, b⟩ (rd r i) (rd r k) from rfl, if_pos hpi] at g2
                      have g3 := C78 (x := x) (z := z) (l := l) (b := b) (r := [rd r i]) (s := []) ⟨⟨by omega, by omega, by simp⟩, fun _ => single_con.2 (hn9 i (by omega))⟩
                      have g4 := C78 (x := x) (z := z) (l := l) (b := b) (r := [rd r k]) (s := []) ⟨⟨by omega, by omega, by simp⟩, fun _ => single_con.2 (hn9 k (by omega))⟩
                      have hok1 := hR _ (single_ok (hok i (by omega)))
                      have hok2 := hR _ (single_ok (hok k (by omega)))
                      rw [orE, if_pos hok1, if_pos hok1, if_pos rfl] at g3
                      rw [orE, if_pos hok2, if_pos hok2, if_pos rfl] at g4
                      have c5 := C16 (n := (i : Int)) (lo := 0) (hi := (r.length : Int) - 1)
                      have c6 := C16 (n := (k : Int)) (lo := 0) (hi := (r.length : Int) - 1)
                      rw [decide_eq_true hin] at c5
                      rw [decide_eq_true hin2] at c6
                      generalize ap2 ⟨x, z, l, b⟩ (rd r i) (rd r k) = W at *
                      (repeat' first | (refine Owe.same ?_; first | refine Owe.o ?_ | refine Owe.mk ?_ ?_) | (refine Fork.same ?_; (first | refine fkY ?_ | refine fkF ?_ | ((first | refine fkD ?_ ?_ | refine fkN ?_ ?_ | refine fkM ?_ ?_) <;> intro h))) | ((first | refine OpsL.same ?_ | refine OpsDL.same ?_); first | refine oK C30 rfl rfl rfl ?_ | refine oK C31 rfl rfl rfl ?_ | refine oK C48 rfl rfl rfl ?_ | refine oK C79 rfl rfl rfl ?_ | refine oK g1 rfl rfl rfl ?_ | refine oK g2 rfl rfl rfl ?_) | refine MvQ.stay ?_)
                      refine Sat.lp (fun j : Nat => ⟨[(29, vi .i64 j), (24, .c (ints [(i : Int), (k : Int)])), (3, .c (.bp 0 0)), (5, .c (.bp 1 0)), (1, .c (prs b))], [(1, .box [ints ps, trs r]), (0, .box [int x, int z, trs l])], 2⟩)
                        (fun j => j = 0 ∨ j = 1 ∨ j = 2) (fun j => 2 - j) 0 [0, 1] (.inl rfl) ?_ ?_
                      · (refine qis ?_ ?_ <;> (repeat' first | exact rfl | (refine qS ?_; constructor)))
                      · intro j hj
                        rcases hj with rfl | rfl | rfl
                        · (repeat' first | (refine Owe.same ?_; first | refine Owe.o ?_ | refine Owe.mk ?_ ?_) | (refine Fork.same ?_; (first | refine fkY ?_ | refine fkF ?_ | ((first | refine fkD ?_ ?_ | refine fkN ?_ ?_ | refine fkM ?_ ?_) <;> intro h))) | ((first | refine OpsL.same ?_ | refine OpsDL.same ?_); first | refine pK C30 rfl rfl ?_ | refine pK C48 rfl rfl ?_ | refine pK c5 rfl rfl ?_ | refine pK g3 rfl rfl ?_) | refine MvQ.stay ?_)
                          · change (((0 : Int) ≤ 0 ∧ (0 : Int) < ((2 : Nat) : Int)) ∧ 0 ≤ (i : Int) ∧ (i : Int) < r.length) ∧ True
                            refine ⟨by omega, trivial⟩
                          · refine again 1 [0, 1] (.inr (.inl rfl)) (by decide) ?_
                            (refine qis ?_ ?_ <;> (repeat' first | exact rfl | (refine qS ?_; constructor)))
                        · (repeat' first | (refine Owe.same ?_; first | refine Owe.o ?_ | refine Owe.mk ?_ ?_) | (refine Fork.same ?_; (first | refine fkY ?_ | refine fkF ?_ | ((first | refine fkD ?_ ?_ | refine fkN ?_ ?_ | refine fkM ?_ ?_) <;> intro h))) | ((first | refine OpsL.same ?_ | refine OpsDL.same ?_); first | refine pK C30 rfl rfl ?_ | refine pK C48 rfl rfl ?_ | refine pK c6 rfl rfl ?_ | refine pK g4 rfl rfl ?_) | refine MvQ.stay ?_)
                          · change (((0 : Int) ≤ 1 ∧ (1 : Int) < ((2 : Nat) : Int)) ∧ 0 ≤ (k : Int) ∧ (k : Int) < r.length) ∧ True
                            refine ⟨by omega, trivial⟩
                          · refine again 2 [0, 1] (.inr (.inr rfl)) (by decide) ?_
                            (refine qis ?_ ?_ <;> (repeat' first | exact rfl | (refine qS ?_; constructor)))
                        · (repeat' first | (refine Owe.same ?_; first | refine Owe.o ?_ | refine Owe.mk ?_ ?_) | (refine Fork.same ?_; (first | refine fkY ?_ | refine fkF ?_ | ((first | refine fkD ?_ ?_ | refine fkN ?_ ?_ | refine fkM ?_ ?_) <;> intro h))) | ((first | refine OpsL.same ?_ | refine OpsDL.same ?_); first | refine oK C30 rfl rfl rfl ?_) | refine MvQ.stay ?_)
                          (refine rqK rfl ?_; (repeat' first | exact rfl | (refine qS ?_; constructor)))
        · refine pi1 fn13 ?_
          (repeat' first | (refine Owe.same ?_; first | refine Owe.o ?_ | refine Owe.mk ?_ ?_) | (refine Fork.same ?_; (first | refine fkY ?_ | refine fkF ?_ | ((first | refine fkD ?_ ?_ | refine fkN ?_ ?_ | refine fkM ?_ ?_) <;> intro h))) | ((first | refine OpsL.same ?_ | refine OpsDL.same ?_); first | refine oK C15 rfl rfl rfl ?_ | refine oK C28 rfl rfl rfl ?_ | refine oK c1 rfl rfl rfl ?_ | refine oK c2 rfl rfl rfl ?_ | refine oK c3 rfl rfl rfl ?_) | refine MvQ.stay ?_)
          all_goals (refine rqK rfl ?_; (repeat' first | exact rfl | (refine qS ?_; constructor)))
      · refine pi1 fn13 ?_
        (repeat' first | (refine Owe.same ?_; first | refine Owe.o ?_ | refine Owe.mk ?_ ?_) | (refine Fork.same ?_; (first | refine fkY ?_ | refine fkF ?_ | ((first | refine fkD ?_ ?_ | refine fkN ?_ ?_ | refine fkM ?_ ?_) <;> intro h))) | ((first | refine OpsL.same ?_ | refine OpsDL.same ?_); first | refine oK C15 rfl rfl rfl ?_ | refine oK C28 rfl rfl rfl ?_ | refine oK c1 rfl rfl rfl ?_ | refine oK c2 rfl rfl rfl ?_) | refine MvQ.stay ?_)
        all_goals (refine rqK rfl ?_; (repeat' first | exact rfl | (refine qS ?_; constructor)))
    · refine pi1 fn13 ?_
      (repeat' first | (refine Owe.same ?_; first | refine Owe.o ?_ | refine Owe.mk ?_ ?_) | (refine Fork.same ?_; (first | refine fkY ?_ | refine fkF ?_ | ((first | refine fkD ?_ ?_ | refine fkN ?_ ?_ | refine fkM ?_ ?_) <;> intro h))) | ((first | refine OpsL.same ?_ | refine OpsDL.same ?_); first | refine oK C15 rfl rfl rfl ?_ | refine oK C28 rfl rfl rfl ?_ | refine oK c1 rfl rfl rfl ?_) | refine MvQ.stay ?_)
      all_goals (refine rqK rfl ?_; (repeat' first | exact rfl | (refine qS ?_; constructor)))
  · refine pi1 fn13 ?_
    (repeat' first | (refine Owe.same ?_; first | refine Owe.o ?_ | refine Owe.mk ?_ ?_) | (refine Fork.same ?_; (first | refine fkY ?_ | refine fkF ?_ | ((first | refine fkD ?_ ?_ | refine fkN ?_ ?_ | refine fkM ?_ ?_) <;> intro h))) | ((first | refine OpsL.same ?_ | refine OpsDL.same ?_); first | refine oK C15 rfl rfl rfl ?_ | refine oK C28 rfl rfl rfl ?_) | refine MvQ.stay ?_)
    all_goals (refine rqK rfl ?_; (repeat' first | exact rfl | (refine qS ?_; constructor)))
end Go.Pw

namespace Go.Proofs.Ytkoohllimmkmoaa
open Go.ChangeShapes Go.WideShapes Go.ChangeAt Go.RowKit Go.Pw
theorem Try.own : ownKnob Try.prog.godebug = none := by kernel_rfl
theorem Try.laidOut : laidOutB Try.prog = true := by kernel_rfl
theorem shapes : shAll Try.prog [49, 72, 122] = some [(true, [.int .i64, .int .i64, .sl [.int .i64, .int .i64, .int .i64]]), (false, [.sl [.int .i64, .int .i64]]), (true, [.sl [.int .i64], .sl [.int .i64, .int .i64, .int .i64]])] := by kernel_rfl
theorem law (args : List V) (h : ArgOk [(true, [.int .i64, .int .i64, .sl [.int .i64, .int .i64, .int .i64]]), (false, [.sl [.int .i64, .int .i64]]), (true, [.sl [.int .i64], .sl [.int .i64, .int .i64, .int .i64]])] args) : PFD Try.prog 13 args (vbl true) := by
  match args, h with
  | [v0, v1, v2], ⟨h0, h1, h2, _⟩ =>
    obtain ⟨x0, z0, l0, r0, q0⟩ := arg_line h0
    obtain ⟨l1, r1, q1⟩ := arg_prs h1
    obtain ⟨l2, m2, r2, q2⟩ := arg_irs h2
    exact PFD.ri (C13 (w64s_of q2.1.2)) (.cons r0 (.cons r1 (.cons r2 .nil)))
set_option maxRecDepth 100000 in
theorem lifted (os : Os) (started : os.Started) (H : Type) (enc : TypeId × Value → H) :
    ReturnsInHanded {} Try.checked os 13 .any (Rows.cableAgreedSpec.pre6 enc Try.prog Try.f13 Rows.cableAgreedRow.domain false) (Rows.cableAgreedSpec.post enc Try.prog Try.f13 false true false false) := by
  refine returnsInHanded_of_change (C := Try.checked) Try.own started (by kernel_rfl) Try.func13
    (ChangeSpec.witness6 (enc := enc) (C := Try.checked) false ⟨#[], #[.agg #[.int .i64 0, .int .i64 0, .slice none 0 0], .slice none 0 0, .agg #[.slice none 0 0, .slice none 0 0]], []⟩ 8 (by kernel_rfl) (by kernel_rfl) (by kernel_rfl) (by kernel_rfl)) ?_
  intro W base args ds gs before hval0 hW hcnd _
  exact law_calls (P := Try.prog) (F := Try.f13) (tb := 4) Try.laidOut (by rw [Try.params13]; exact shapes) rfl (fun ds hl => by
    rw [Try.params13] at hl
    match ds, hl with
    | [d0, d1, d2], _ => rfl) (by kernel_rfl) Try.underlying4 law W base args ds gs before hval0 hW
theorem row_holds : Rows.CableAgreedSaid :=
  OpenClaim.holds_of_wide 13 Try.f13 rfl rfl rfl rfl rfl rfl rfl ⟨rfl, rfl, rfl, rfl, rfl⟩ rfl rfl rfl rfl rfl (by kernel_rfl) Try.func13 (by kernel_rfl)
    (of_decide_eq_true (by kernel_rfl)) (by unfold Func.isWrapper; rw [if_neg (by decide +kernel)]; exact ⟨rfl, rfl⟩)
    (fun os started H enc _ => lifted os started H enc)
end Go.Proofs.Ytkoohllimmkmoaa
