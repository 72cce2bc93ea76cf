/- Proved here at the end: the row named in the last theorem, on no condition. -/
import Derived.Test.YtbgikbenhglmkaaSonarOddD
import Derived.Test.YtbgikbenhglmkaaRows
set_option linter.unusedSimpArgs false
namespace Go.Pw
set_option maxRecDepth 2000
open Go Go.Proofs A1 A2 A3 A4
theorem fstE_3 {a b c : Int} : fstE [a, b, c] = if a = 0 then (if b = 0 then (if c = 0 then 0 else c) else b) else a := by
  simp only [fstE]
theorem cmpI_0 {a b : Int} : cmpI a b = 0 ↔ a = b := by rw [cmpI]; split <;> (try split) <;> omega
theorem cmpI_lt {a b : Int} : cmpI a b < 0 ↔ a < b := by rw [cmpI]; split <;> (try split) <;> omega
theorem best_p {c : List Int → Int × Bool} {n : Nat} : ∀ b, (∀ x, x < b → (c (subL n x)).2 = true → (bestK c n b).ok = true ∧ (bestK c n b).p ≤ (c (subL n x)).1) ∧
    ((bestK c n b).ok = true → ∃ x, x < b ∧ (bestK c n b).l = subL n x ∧ (bestK c n b).p = (c (subL n x)).1 ∧ (c (subL n x)).2 = true)
  | 0 => ⟨fun x h => by omega, fun h => by simp [bestK] at h⟩
  | b + 1 => by
    obtain ⟨h1, h2⟩ := best_p (c := c) (n := n) b
    simp only [bestK]
    by_cases hc : (c (subL n b)).2 = true ∧ ((bestK c n b).ok = false ∨ fstE [cmpI (c (subL n b)).1 (bestK c n b).p, cmpI (subL n b).length (bestK c n b).l.length, cmpL (subL n b) (bestK c n b).l] < 0)
    · rw [if_pos hc]
      refine ⟨fun x hx hxc => ⟨rfl, ?_⟩, fun _ => ⟨b, Nat.lt_succ_self _, rfl, rfl, hc.1⟩⟩
      rcases Nat.lt_succ_iff_lt_or_eq.1 hx with hx | rfl
      · obtain ⟨ho, hp⟩ := h1 x hx hxc
        rcases hc.2 with h3 | h3
        · rw [ho] at h3; cases h3
        · rw [fstE_3] at h3
          have : (c (subL n b)).1 ≤ (bestK c n b).p := by
            split at h3
            · rename_i h4; rw [cmpI_0] at h4; omega
            · rw [cmpI_lt] at h3; omega
          simp only; omega
      · exact Int.le_refl _
    · rw [if_neg hc]
      refine ⟨fun x hx hxc => ?_, fun h => ?_⟩
      · rcases Nat.lt_succ_iff_lt_or_eq.1 hx with hx | rfl
        · exact h1 x hx hxc
        · have ho : (bestK c n x).ok = true := by
            cases h : (bestK c n x).ok
            · exact absurd ⟨hxc, .inl h⟩ hc
            · rfl
          refine ⟨ho, Int.not_lt.1 fun hlt => hc ⟨hxc, .inr ?_⟩⟩
          rw [fst_c (by rw [ne_eq, cmpI_0]; omega), cmpI_lt]; exact hlt
      · obtain ⟨x, hx, h3⟩ := h2 h
        exact ⟨x, by omega, h3⟩
theorem or4 {a : Int} (h : 0 ≤ a ∧ a ≤ 3) : a = 0 ∨ a = 1 ∨ a = 2 ∨ a = 3 := by omega
theorem orI_assoc {a b c : Int} (ha : 0 ≤ a ∧ a ≤ 3) (hb : 0 ≤ b ∧ b ≤ 3) (hc : 0 ≤ c ∧ c ≤ 3) : orI (orI a b) c = orI a (orI b c) := by
  rcases or4 ha with rfl | rfl | rfl | rfl <;> rcases or4 hb with rfl | rfl | rfl | rfl <;> rcases or4 hc with rfl | rfl | rfl | rfl <;> decide
theorem orI_0 {a : Int} (ha : 0 ≤ a ∧ a ≤ 3) : orI a 0 = a := by
  rcases or4 ha with rfl | rfl | rfl | rfl <;> decide
/-- What the cells of a list give to one cell. -/
def cbU (w : Int) (r : Ry) (i : Nat) : List Cel → Int
  | [] => 0
  | c :: l => orI (if cellN w c = i then stC r c else 0) (cbU w r i l)
theorem cbU_bd {w : Int} {r : Ry} {i : Nat} : ∀ l, 0 ≤ cbU w r i l ∧ cbU w r i l ≤ 3
  | [] => by simp [cbU]
  | c :: l => by
    rw [cbU]
    refine orI_bd ?_ (cbU_bd l)
    split
    · exact stC_bd
    · decide
theorem foldU_or {w : Int} {r : Ry} {i : Nat} : ∀ (l : List Cel) (out : List Int), i < out.length → (∀ i, 0 ≤ out.getD i 0 ∧ out.getD i 0 ≤ 3) → (l.foldl (updS w r) out).getD i 0 = orI (out.getD i 0) (cbU w r i l)
  | [], out, _, hb => (orI_0 (hb i)).symm
  | c :: l, out, hi, hb => by
    have hd : 0 ≤ (if cellN w c = i then stC r c else 0) ∧ (if cellN w c = i then stC r c else 0) ≤ 3 := by
      split
      · exact stC_bd
      · decide
    rw [List.foldl_cons, foldU_or l (updS w r out c) (by rw [updS, List.length_set]; exact hi) (updS_bd hb), cbU, ← orI_assoc (hb i) hd (cbU_bd l)]
    congr 1
    rw [updS, List.getD_eq_getElem?_getD, List.getElem?_set]
    by_cases h : cellN w c = i
    · rw [if_pos h, if_pos h, if_pos (by rw [h]; exact hi), h]; rfl
    · rw [if_neg h, if_neg h, ← List.getD_eq_getElem?_getD, orI_0 (hb i)]
/-- What a ray gives to a cell. -/
abbrev cbR (w : Int) (i : Nat) (r : Ry) : Int := cbU w r i (crS r)
/-- What rays give to a cell. -/
def cbL (w : Int) (i : Nat) : List Ry → Int
  | [] => 0
  | r :: l => orI (cbR w i r) (cbL w i l)
theorem cbL_bd {w : Int} {i : Nat} : ∀ l, 0 ≤ cbL w i l ∧ cbL w i l ≤ 3
  | [] => by simp [cbL]
  | r :: l => orI_bd (cbU_bd _) (cbL_bd l)
theorem cbL_app {w : Int} {i : Nat} : ∀ {l m : List Ry}, cbL w i (l ++ m) = orI (cbL w i l) (cbL w i m)
  | [], m => by
    have h := cbL_bd (w := w) (i := i) m
    rw [List.nil_append, cbL]
    rcases or4 h with e | e | e | e <;> rw [e] <;> decide
  | r :: l, m => by rw [List.cons_append, cbL, cbL, cbL_app, orI_assoc (cbU_bd _) (cbL_bd l) (cbL_bd m)]
/-- The rays that are left of so many. -/
def kpL (l : List Ry) (wo : List Int) : Nat → List Ry
  | 0 => []
  | k + 1 => if (k : Int) ∈ wo then kpL l wo k else kpL l wo k ++ [l.getD k ryd]
theorem stK_cb {s : Sc} {wo : List Int} {i : Nat} (hi : i < (s.1 * s.2.1).toNat) : ∀ k, (stK s wo k).getD i 0 = cbL s.1 i (kpL s.2.2 wo k)
  | 0 => by rw [stK, kpL, cbL, List.getD_eq_getElem?_getD, List.getElem?_replicate, if_pos hi]; rfl
  | k + 1 => by
    rw [stK, kpL]
    split
    · exact stK_cb hi k
    · rw [stR, foldU_or _ _ (by rw [stK_len]; exact hi) (stK_bd k), stK_cb hi k, cbL_app, cbL, cbL, orI_0 (cbU_bd _)]
theorem kpL_nil {l : List Ry} : ∀ k, k ≤ l.length → kpL l [] k = l.take k
  | 0, _ => rfl
  | k + 1, h => by
    rw [kpL, if_neg (by simp), kpL_nil k (by omega), List.take_add_one, List.getElem?_eq_getElem (by omega), List.getD_eq_getElem?_getD, List.getElem?_eq_getElem (by omega)]; rfl
theorem stS_len {s : Sc} {wo : List Int} : (stS s wo).length = (s.1 * s.2.1).toNat := stK_len _
/-- Without some rays the states are those of the scene of the others. -/
theorem stS_rest {s : Sc} {wo : List Int} : stS (s.1, s.2.1, kpL s.2.2 wo s.2.2.length) [] = stS s wo := by
  refine ext_getD 0 (by rw [stS_len, stS_len]) fun i hi => ?_
  rw [stS_len] at hi
  simp only [stS]
  rw [stK_cb (s := (s.1, s.2.1, kpL s.2.2 wo s.2.2.length)) hi, stK_cb (s := s) hi]
  rw [kpL_nil _ (Nat.le_refl _), List.take_length]
/-- The states of merged scenes. -/
theorem stS_merged {w g : Int} {a b : List Ry} {i : Nat} (hi : i < (w * g).toNat) : (stS (w, g, a ++ b) []).getD i 0 = orI ((stS (w, g, a) []).getD i 0) ((stS (w, g, b) []).getD i 0) := by
  rw [stS, stS, stS, stK_cb (s := (w, g, a ++ b)) hi, stK_cb (s := (w, g, a)) hi, stK_cb (s := (w, g, b)) hi]
  simp only
  rw [kpL_nil _ (Nat.le_refl _), kpL_nil _ (Nat.le_refl _), kpL_nil _ (Nat.le_refl _), List.take_length, List.take_length, List.take_length, cbL_app]
theorem stS_bd {s : Sc} {wo : List Int} (i : Nat) : 0 ≤ (stS s wo).getD i 0 ∧ (stS s wo).getD i 0 ≤ 3 := stK_bd _ i
/-- Without all rays nothing is contradicted. -/
theorem kpL_all {l : List Ry} {wo : List Int} (n : Nat) (h : ∀ k, k < n → (k : Int) ∈ wo) : ∀ k, k ≤ n → kpL l wo k = []
  | 0, _ => rfl
  | k + 1, hk => by rw [kpL, if_pos (h k (by omega)), kpL_all n h k (by omega)]
theorem stS_none {s : Sc} {wo : List Int} (h : ∀ k, k < s.2.2.length → (k : Int) ∈ wo) : ¬ (3 : Int) ∈ stS s wo := fun hm => by
  obtain ⟨i, hi, he⟩ := List.getElem_of_mem hm
  rw [stS_len] at hi
  have e := stK_cb (s := s) (wo := wo) hi s.2.2.length
  rw [kpL_all _ h _ (Nat.le_refl _), cbL] at e
  have : (stS s wo).getD i 0 = 3 := by rw [List.getD_eq_getElem?_getD, List.getElem?_eq_getElem (by rw [stS_len]; exact hi)]; exact he
  rw [stS] at this
  omega
theorem conL_mem {l : List Int} : ∀ k, k ≤ l.length → ((∃ i, i < k ∧ l.getD i 0 = 3) ↔ 0 < (conL l k).length)
  | 0, _ => by simp [conL]
  | k + 1, hk => by
    have ih := conL_mem (l := l) k (by omega)
    rw [conL]
    split
    · rename_i h
      exact ⟨fun _ => by simp, fun _ => ⟨k, Nat.lt_succ_self _, h⟩⟩
    · rename_i h
      rw [← ih]
      constructor
      · rintro ⟨i, hi, h1⟩
        rcases Nat.lt_succ_iff_lt_or_eq.1 hi with h2 | rfl
        · exact ⟨i, h2, h1⟩
        · exact absurd h1 h
      · rintro ⟨i, hi, h1⟩; exact ⟨i, by omega, h1⟩
theorem con_iff {l : List Int} : 0 < (conL l l.length).length ↔ (3 : Int) ∈ l := by
  rw [← conL_mem _ (Nat.le_refl _)]
  constructor
  · rintro ⟨i, hi, h⟩
    have := getD_mem (0 : Int) hi
    rwa [h] at this
  · intro h
    obtain ⟨i, hi, he⟩ := List.getElem_of_mem h
    exact ⟨i, hi, by rw [List.getD_eq_getElem?_getD, List.getElem?_eq_getElem hi]; exact he⟩
/-- What the law asks of the odd rays. -/
theorem odd_law {s : Sc} : ∃ x, x < 2 ^ s.2.2.length ∧ (bestK (odC s) s.2.2.length (2 ^ s.2.2.length)).l = subL s.2.2.length x ∧ ¬ (3 : Int) ∈ stS s (subL s.2.2.length x) ∧
    ∀ y, y < 2 ^ s.2.2.length → ¬ (3 : Int) ∈ stS s (subL s.2.2.length y) → (subL s.2.2.length x).length ≤ (subL s.2.2.length y).length := by
  obtain ⟨h1, h2⟩ := best_p (c := odC s) (n := s.2.2.length) (2 ^ s.2.2.length)
  have hall : (odC s (subL s.2.2.length (2 ^ s.2.2.length - 1))).2 = true := by
    rw [odC]
    simp only [Bool.not_eq_true', decide_eq_false_iff_not]
    refine stS_none fun k hk => ?_
    rw [subL, fltL, List.mem_map]
    refine ⟨k, List.mem_filter.2 ⟨List.mem_range.2 hk, ?_⟩, rfl⟩
    simp [Nat.testBit_two_pow_sub_one, hk]
  have hp : 0 < 2 ^ s.2.2.length := Nat.two_pow_pos _
  obtain ⟨hok, _⟩ := h1 _ (by omega) hall
  obtain ⟨x, hx, e1, e2, e3⟩ := h2 hok
  refine ⟨x, hx, e1, ?_, fun y hy hn => ?_⟩
  · rw [odC] at e3
    simpa using e3
  · have := (h1 y hy (by rw [odC]; simpa using hn)).2
    rw [e2, odC, odC] at this
    simp only at this
    omega
end Go.Pw

set_option linter.unusedSimpArgs false
namespace Go.Pw
set_option maxRecDepth 2000
open Go Go.Proofs A1 A2 A3 A4
theorem OpsL.frzA {P : Program} [Mix P] {N base : Nat} {ops : List LIns} {K : St → Prop} {env : List (Nat × V)} {σ : Store} {nx : Nat} (t j id : Nat) {cs : List C} {n : Nat} {e : TypeId} {s m : Nat} {f : Nat → List D} {fz : Bool} (h : lk env t = .agg cs) (hj : cs[j]? = some (.ms id n)) (hg : get σ id = some (.row e s m f fz)) (hn : n ≤ m)
    (k : frS (set σ id (.row e s m f true)) fun σ' => OpsL P N base ops ⟨(t, .agg (putAt cs j (.d (.sl s n f)))) :: env, σ', nx⟩ K) : OpsL P N base ops ⟨env, σ, nx⟩ K := by
  rw [frS_eq] at k
  exact ⟨Ops.from (Mv.freezeA t j id h hj hg hn) k.h⟩
theorem bit_i64 {b i : Nat} (hb : b < 2 ^ 62) (hi : i < 64) : decide (IntKind.i64.wrap ((BitVec.ofInt IntKind.i64.bits ((b : Int).fdiv (2 ^ min (Int.toNat (i : Int)) IntKind.i64.bits)) &&& BitVec.ofInt IntKind.i64.bits 1).toNat : Nat) = 1) = b.testBit i := by
  have hbits : IntKind.i64.bits = 64 := rfl
  have e1 : (b : Int).fdiv (2 ^ min (Int.toNat (i : Int)) IntKind.i64.bits) = ((b / 2 ^ i : Nat) : Int) := by
    rw [hbits, Int.toNat_natCast, Nat.min_eq_left (by omega), Int.fdiv_eq_ediv_of_nonneg _ (Int.pow_nonneg (by decide))]
    norm_cast
  rw [e1, Nat.testBit_eq_decide_div_mod_eq]
  have hlt : b / 2 ^ i < 2 ^ 62 := by
    have := Nat.div_le_self b (2 ^ i)
    omega
  generalize b / 2 ^ i = q at hlt ⊢
  have e2 : (BitVec.ofInt IntKind.i64.bits (q : Int) &&& BitVec.ofInt IntKind.i64.bits 1).toNat = q % 2 := by
    rw [BitVec.toNat_and]
    have f1 : (BitVec.ofInt IntKind.i64.bits (q : Int)).toNat = q := by
      rw [BitVec.toNat_ofInt, hbits]; omega
    have f2 : (BitVec.ofInt IntKind.i64.bits 1).toNat = 1 := rfl
    rw [f1, f2, Nat.and_one_is_mod]
  rw [e2]
  have e3 : IntKind.i64.wrap ((q % 2 : Nat) : Int) = ((q % 2 : Nat) : Int) := by
    rcases (show q % 2 = 0 ∨ q % 2 = 1 by omega) with h | h <;> rw [h] <;> rfl
  rw [e3, Bool.eq_iff_iff, decide_eq_true_eq, decide_eq_true_eq]
  omega
theorem shl_i64 {n : Nat} (h : n ≤ 20) : IntKind.i64.wrap (1 * 2 ^ min (Int.toNat (n : Int)) IntKind.i64.bits) = ((2 ^ n : Nat) : Int) := by
  have : n = 0 ∨ n = 1 ∨ n = 2 ∨ n = 3 ∨ n = 4 ∨ n = 5 ∨ n = 6 ∨ n = 7 ∨ n = 8 ∨ n = 9 ∨ n = 10 ∨ n = 11 ∨ n = 12 ∨ n = 13 ∨ n = 14 ∨ n = 15 ∨ n = 16 ∨ n = 17 ∨ n = 18 ∨ n = 19 ∨ n = 20 := by omega
  rcases this with h | h | h | h | h | h | h | h | h | h | h | h | h | h | h | h | h | h | h | h | h <;> subst h <;> decide
theorem fltL_mem {p : Nat → Bool} {n k : Nat} : (k : Int) ∈ fltL p n ↔ k < n ∧ p k = true := by
  rw [fltL, List.mem_map]
  constructor
  · rintro ⟨i, hi, he⟩
    have : i = k := by omega
    subst this
    exact ⟨List.mem_range.1 (List.mem_filter.1 hi).1, (List.mem_filter.1 hi).2⟩
  · rintro ⟨h1, h2⟩
    exact ⟨k, List.mem_filter.2 ⟨List.mem_range.2 h1, h2⟩, rfl⟩
theorem fltL_asc {p : Nat → Bool} {n : Nat} : (fltL p n).Pairwise (· < ·) := by
  rw [fltL, List.pairwise_map]
  refine List.Pairwise.filter _ ?_
  exact List.pairwise_lt_range.imp fun h => Int.ofNat_lt.2 h
theorem kpL_sub {l : List Ry} {wo : List Int} : ∀ k, k ≤ l.length → (∀ r ∈ kpL l wo k, r ∈ l) ∧ (kpL l wo k).length ≤ k
  | 0, _ => ⟨fun r h => by simp [kpL] at h, Nat.le_refl _⟩
  | k + 1, hk => by
    obtain ⟨h1, h2⟩ := kpL_sub (l := l) (wo := wo) k (by omega)
    rw [kpL]
    split
    · exact ⟨h1, by omega⟩
    · refine ⟨fun r hr => ?_, by simp; omega⟩
      rcases List.mem_append.1 hr with h | h
      · exact h1 r h
      · rw [List.mem_singleton] at h
        subst h
        exact getD_mem ryd (by omega)
theorem scE_kp {w g : Int} {l : List Ry} {wo : List Int} (h : (scE (w, g, l)).2 = 0) : (scE (w, g, kpL l wo l.length)).2 = 0 := by
  obtain ⟨h1, h2⟩ := scE_ok.1 h
  obtain ⟨h3, h4⟩ := kpL_sub (l := l) (wo := wo) l.length (Nat.le_refl _)
  have h5 := gridE_ok.1 h1
  refine scE_ok.2 ⟨gridE_ok.2 ⟨h5.1, ?_⟩, fun r hr => h2 r (h3 r hr)⟩
  simp only at h5 ⊢
  omega
set_option maxHeartbeats 4000000 in
theorem C7 {s o : Sc} : PFD Try.prog 7 [scv s, scv o] (vbl true) := by
  have c1 := C29 (s := s)
  have c2 := C29 (s := o)
  by_cases hP : (s.2.2.length ≤ 5 ∧ o.2.2.length ≤ 5) ∧ (scE s).2 = 0 ∧ (scE o).2 = 0
  · obtain ⟨⟨hs5, ho5⟩, h1, h2⟩ := hP
    have hO := scE_sc h1
    rw [h1] at c1
    rw [h2] at c2
    have c3 := C31 (s := s) (by omega)
    have c3' := C31 (s := o) (by omega)
    have c4 := C30 (s := s) (by omega)
    obtain ⟨x, hx, e1, e2, e3⟩ := odd_law (s := s)
    rw [if_pos h1, e1, h1] at c4
    have hLn : (subL s.2.2.length x).length ≤ s.2.2.length := fltL_len _ _
    have hLm : ∀ y ∈ subL s.2.2.length x, 0 ≤ y ∧ y < s.2.2.length := fun y hy => subL_mem hy
    have hLa : srt (subL s.2.2.length x) := srt_of fltL_asc
    generalize subL s.2.2.length x = L at *
    refine pi1 fn7 ?_
    (repeat' first | (refine Owe.same ?_; first | refine Owe.o ?_ | refine Owe.mk ?_ ?_) | (refine Fork.same ?_; (first | refine fkY ?_ | refine fkF ?_ | ((first | refine fkD ?_ ?_ | refine fkN ?_ ?_ | refine fkM ?_ ?_) <;> intro h))) | ((first | refine OpsL.same ?_ | refine OpsDL.same ?_); first | refine oK C8 rfl rfl rfl ?_ | refine oK c1 rfl rfl rfl ?_ | refine oK c2 rfl rfl rfl ?_ | refine oK c3 rfl rfl rfl ?_ | refine oK c4 rfl rfl rfl ?_) | refine MvQ.stay ?_)
    refine Sat.lp0 (fun i : Nat => [(7, vi .i64 i), (5, .c (ints L)), (2, .c (.rp (scD s))), (3, .c (.rp (scD o)))]) (fun i => i ≤ L.length) (fun i => L.length - i) 0 (Nat.zero_le _) (by ((first | refine qen ?_ | refine qvs ?_ | refine qeq ?_ | refine qst ?_ | refine qv ?_ | refine qc ?_ | refine qe ?_ | refine qcs ?_ | skip); (repeat' first | exact rfl | (refine qS ?_; constructor)))) ?_
    intro i hi
    refine Fork.dec (fun hlt => ?_) (fun hlt => ?_)
    · have hlt : i < L.length := by omega
      have hm := hLm _ (getD_mem 0 hlt)
      have c17 := C17 (n := L.getD i 0) (lo := 0) (hi := (s.2.2.length : Int) - 1)
      rw [decide_eq_true (by omega)] at c17
      have ha : ∀ j : Nat, j + 1 = i → L.getD j 0 < L.getD i 0 := fun j hj => hLa j i (by omega) hlt
      rcases i with _ | i
      · (repeat' first | (refine Owe.same ?_; first | refine Owe.o ?_ | refine Owe.mk ?_ ?_) | (refine Fork.same ?_; (first | refine fkY ?_ | refine fkF ?_ | ((first | refine fkD ?_ ?_ | refine fkN ?_ ?_ | refine fkM ?_ ?_) <;> intro h))) | ((first | refine OpsL.same ?_ | refine OpsDL.same ?_); first | refine oK c17 rfl rfl rfl ?_) | refine MvQ.stay ?_)
        exact again0 1 hlt (by omega) (by ((first | refine qen ?_ | refine qvs ?_ | refine qeq ?_ | refine qst ?_ | refine qv ?_ | refine qc ?_ | refine qe ?_ | refine qcs ?_ | skip); (repeat' first | exact rfl | (refine qS ?_; constructor))))
      · have ha := ha i rfl
        have e : (((i + 1 : Nat) : Int) - 1).toNat = i := by omega
        have ha' : L.getD (((i + 1 : Nat) : Int) - 1).toNat 0 < L.getD (((i + 1 : Nat) : Int)).toNat 0 := by rw [e]; exact ha
        (repeat' first | (refine Owe.same ?_; first | refine Owe.o ?_ | refine Owe.mk ?_ ?_) | (refine Fork.same ?_; (first | refine fkY ?_ | refine fkF ?_ | ((first | refine fkD ?_ ?_ | refine fkN ?_ ?_ | refine fkM ?_ ?_) <;> intro h))) | ((first | refine OpsL.same ?_ | refine OpsDL.same ?_); first | refine oK c17 rfl rfl rfl ?_) | refine MvQ.stay ?_)
        exact again0 (i + 2) hlt (by omega) (by ((first | refine qen ?_ | refine qvs ?_ | refine qeq ?_ | refine qst ?_ | refine qv ?_ | refine qc ?_ | refine qe ?_ | refine qcs ?_ | skip); (repeat' first | exact rfl | (refine qS ?_; constructor))))
    · have : i = L.length := by omega
      subst this
      have hshl := shl_i64 (n := s.2.2.length) (by omega)
      have hpow : 2 ^ s.2.2.length ≤ 2 ^ 5 := Nat.pow_le_pow_right (by decide) hs5
      obtain ⟨N, hN⟩ : ∃ N, N = 2 ^ s.2.2.length := ⟨_, rfl⟩
      rw [← hN] at hshl hpow e3
      (repeat' first | (refine Owe.same ?_; first | refine Owe.o ?_ | refine Owe.mk ?_ ?_) | (refine Fork.same ?_; (first | refine fkD ?_ ?_ | refine fkN ?_ ?_ | refine fkM ?_ ?_) <;> intro h) | refine MvQ.stay ?_)
      refine Sat.lp0 (fun b : Nat => [(8, vi .i64 b), (5, .c (ints L)), (2, .c (.rp (scD s))), (3, .c (.rp (scD o)))]) (fun b => b ≤ N) (fun b => N - b) 0 (Nat.zero_le _) (by ((first | refine qen ?_ | refine qvs ?_ | refine qeq ?_ | refine qst ?_ | refine qv ?_ | refine qc ?_ | refine qe ?_ | refine qcs ?_ | skip); (repeat' first | exact rfl | (refine qS ?_; constructor)))) ?_
      intro b hb
      (repeat' first | (refine Owe.same ?_; first | refine Owe.o ?_ | refine Owe.mk ?_ ?_) | (refine Fork.same ?_; (first | refine fkD ?_ ?_ | refine fkN ?_ ?_ | refine fkM ?_ ?_) <;> intro h) | refine MvQ.stay ?_)
      · rw [hshl] at h
        have hbN : b < N := by omega
        (repeat' first | (refine Owe.same ?_; first | refine Owe.o ?_ | refine Owe.mk ?_ ?_) | (refine Fork.same ?_; (first | refine fkD ?_ ?_ | refine fkN ?_ ?_ | refine fkM ?_ ?_) <;> intro h) | refine MvQ.stay ?_)
        refine Sat.nilB 0 2 25 5 (fun i => r5 (([] : List Ry).getD i ryd)) rfl rfl ?_
        refine Sat.nilS 10 3 1 (fun i => r1 (([] : List Int).getD i 0)) rfl ?_
        refine Sat.lp (fun i : Nat => ⟨[(11, vi .i64 i), (8, vi .i64 b), (9, .c (.bp 0 0)), (10, .c (.ms 2 (fltL b.testBit i).length)), (5, .c (ints L)), (2, .c (.rp (scD s))), (3, .c (.rp (scD o)))],
            [(0, .box [int s.1, int s.2.1, .ms 1 (kpL s.2.2 (subL s.2.2.length b) i).length]), (1, rowv 25 5 r5 ryd (kpL s.2.2 (subL s.2.2.length b) i)), (2, rowv 3 1 r1 0 (fltL b.testBit i))], 3⟩)
          (fun i => i ≤ s.2.2.length) (fun i => s.2.2.length - i) 0 [0, 1, 2] (Nat.zero_le _) ?_ ?_
        · (refine qis ?_ ?_ <;> (repeat' first | exact rfl | (refine qS ?_; constructor)))
        · intro i hi
          refine Fork.dec (fun hlt => ?_) (fun hlt => ?_)
          · have hlt : i < s.2.2.length := by omega
            have hbit := bit_i64 (b := b) (i := i) (by omega) (by omega)
            have f1 := fltL_len b.testBit i
            have f2 := fltL_succ b.testBit i
            have f3 := (kpL_sub (l := s.2.2) (wo := subL s.2.2.length b) i (by omega)).2
            have f4 : kpL s.2.2 (subL s.2.2.length b) (i + 1) = if (i : Int) ∈ subL s.2.2.length b then kpL s.2.2 (subL s.2.2.length b) i else kpL s.2.2 (subL s.2.2.length b) i ++ [s.2.2.getD i ryd] := rfl
            have f5 : (i : Int) ∈ subL s.2.2.length b ↔ b.testBit i = true := by rw [subL, fltL_mem]; exact ⟨fun h => h.2, fun h => ⟨hlt, h⟩⟩
            (repeat' first | (refine Owe.same ?_; first | refine Owe.o ?_ | refine Owe.mk ?_ ?_) | (refine Fork.same ?_; (first | refine fkD ?_ ?_ | refine fkN ?_ ?_ | refine fkM ?_ ?_) <;> intro h) | refine MvQ.stay ?_)
            · rw [decide_eq_true h] at hbit
              rw [if_pos hbit.symm] at f2
              rw [if_pos (f5.2 hbit.symm)] at f4
              refine again (i + 1) [0, 1, 3] hlt (by omega) ?_
              rw [f4]
              (refine qis ?_ ?_ <;> (repeat' first | exact rfl | (refine qS ?_; constructor)))
              · rw [f2]; simp
              · exact f2
            · rw [decide_eq_false h] at hbit
              rw [if_neg (by rw [← hbit]; decide)] at f2
              rw [if_neg (by rw [f5, ← hbit]; decide)] at f4
              refine again (i + 1) [0, 11, 2] hlt (by omega) ?_
              rw [f2]
              (refine qis ?_ ?_ <;> (repeat' first | exact rfl | (refine qS ?_; constructor)))
              · rw [f4]; simp
              · exact ⟨_, rfl, f4⟩
          · have : i = s.2.2.length := by omega
            subst this
            (repeat' first | (refine Owe.same ?_; first | refine Owe.o ?_ | refine Owe.mk ?_ ?_) | (refine Fork.same ?_; (first | refine fkD ?_ ?_ | refine fkN ?_ ?_ | refine fkM ?_ ?_) <;> intro h))
            refine MvQ.frz 10 _ rfl rfl (Nat.le_refl _) ?_
            have hR := scE_kp (wo := subL s.2.2.length b) (show (scE (s.1, s.2.1, s.2.2)).2 = 0 from h1)
            have hRl := (kpL_sub (l := s.2.2) (wo := subL s.2.2.length b) s.2.2.length (Nat.le_refl _)).2
            have c32 := C32 (s := (s.1, s.2.1, kpL s.2.2 (subL s.2.2.length b) s.2.2.length)) (show (kpL s.2.2 (subL s.2.2.length b) s.2.2.length).length ≤ 1000000 by omega)
            rw [if_pos hR, hR, stS_rest] at c32
            have hq := con_iff (l := stS s (subL s.2.2.length b))
            have hW := e3 b hbN
            have hWl : (subL s.2.2.length b).length ≤ s.2.2.length := fltL_len _ _
            have c19 := C19 (l := subL s.2.2.length b) (m := L) (by omega)
            have hWL : subL s.2.2.length b = L → ¬ (3 : Int) ∈ stS s (subL s.2.2.length b) := fun h => by rw [h]; exact e2
            generalize hQ : conL (stS s (subL s.2.2.length b)) (stS s (subL s.2.2.length b)).length = Q at *
            generalize kpL s.2.2 (subL s.2.2.length b) s.2.2.length = R at *
            change PFD Try.prog 19 [.c (ints (fltL b.testBit s.2.2.length)), .c (ints L)] _ at c19
            have hWe : subL s.2.2.length b = fltL b.testBit s.2.2.length := rfl
            rw [hWe] at hWL hW hWl hq c19
            generalize fltL b.testBit s.2.2.length = W at *
            have hbad : ¬ (W = L ∧ 0 < Q.length) ∧ ¬ (W.length < L.length ∧ Q.length = 0) := by
              refine ⟨fun hh => hWL hh.1 (hq.1 hh.2), fun hh => ?_⟩
              have : ¬ (3 : Int) ∈ stS s W := fun hm => by have := hq.2 hm; omega
              have := hW this
              omega
            (repeat' first | (refine Owe.same ?_; first | refine Owe.o ?_ | refine Owe.mk ?_ ?_) | (refine Fork.same ?_; (first | refine fkD ?_ ?_ | refine fkN ?_ ?_ | refine fkM ?_ ?_) <;> intro h) | refine MvQ.stay ?_)
            refine OpsL.frzA 133 2 1 rfl rfl rfl (Nat.le_refl _) ?_
            by_cases hwl : W = L
            · have h0 : ¬ 0 < Q.length := fun h => hbad.1 ⟨hwl, h⟩
              have hwl2 : W.length = L.length := by rw [hwl]
              rw [decide_eq_true hwl] at c19
              (repeat' first | (refine Owe.same ?_; first | refine Owe.o ?_ | refine Owe.mk ?_ ?_) | (refine Fork.same ?_; (first | refine fkY ?_ | refine fkF ?_ | ((first | refine fkD ?_ ?_ | refine fkN ?_ ?_ | refine fkM ?_ ?_) <;> intro h))) | ((first | refine OpsL.same ?_ | refine OpsDL.same ?_); first | refine pK c32 rfl rfl ?_ | refine pK c19 rfl rfl ?_) | refine MvQ.stay ?_)
              all_goals exact again0 (b + 1) hbN (by omega) (by ((first | refine qen ?_ | refine qvs ?_ | refine qeq ?_ | refine qst ?_ | refine qv ?_ | refine qc ?_ | refine qe ?_ | refine qcs ?_ | skip); (repeat' first | exact rfl | (refine qS ?_; constructor))))
            · have h0 : ¬ (W.length < L.length ∧ Q.length = 0) := hbad.2
              rw [decide_eq_false hwl] at c19
              (repeat' first | (refine Owe.same ?_; first | refine Owe.o ?_ | refine Owe.mk ?_ ?_) | (refine Fork.same ?_; (first | refine fkY ?_ | refine fkF ?_ | ((first | refine fkD ?_ ?_ | refine fkN ?_ ?_ | refine fkM ?_ ?_) <;> intro h))) | ((first | refine OpsL.same ?_ | refine OpsDL.same ?_); first | refine pK c32 rfl rfl ?_ | refine pK c19 rfl rfl ?_) | refine MvQ.stay ?_)
              all_goals exact again0 (b + 1) hbN (by omega) (by ((first | refine qen ?_ | refine qvs ?_ | refine qeq ?_ | refine qst ?_ | refine qv ?_ | refine qc ?_ | refine qe ?_ | refine qcs ?_ | skip); (repeat' first | exact rfl | (refine qS ?_; constructor))))
      · clear e3 hb
        have c33 := C33 (a := s) (b := o)
        by_cases hm : meE s o = 0
        · rw [hm] at c33
          have hm' := hm
          rw [meE, h1, h2, fst_z, fst_z, fst2] at hm'
          obtain ⟨hm1, hm2⟩ := hm'
          have hm1 := (unl0 (by decide)).1 hm1
          have hm2 := (unl0 (by decide)).1 hm2
          have c34 := C34 (a := s) (b := o) ⟨by omega, by omega⟩
          rw [meR, if_pos hm] at c34
          have c35 := C35 (s := s) (by omega)
          have c35o := C35 (s := o) (by omega)
          have hMl : (s.2.2 ++ o.2.2).length = s.2.2.length + o.2.2.length := List.length_append
          have c35m := C35 (s := (s.1, s.2.1, s.2.2 ++ o.2.2)) (show (s.2.2 ++ o.2.2).length ≤ 1000000 by omega)
          have c29m := C29 (s := (s.1, s.2.1, s.2.2 ++ o.2.2))
          have hM0 : (scE (s.1, s.2.1, s.2.2 ++ o.2.2)).2 = 0 := by
            have g1 := scE_ok.1 h1
            have g2 := scE_ok.1 h2
            rw [← hm1.1, ← hm1.2] at g2
            refine scE_ok.2 ⟨gridE_ok.2 ⟨(gridE_ok.1 g1.1).1, ?_⟩, fun r hr => ?_⟩
            · show (((s.2.2 ++ o.2.2).length : Nat) : Int) ≤ 10
              omega
            · rcases List.mem_append.1 hr with hr | hr
              · exact g1.2 r hr
              · exact g2.2 r hr
          rw [h1, if_pos rfl] at c35
          rw [h2, if_pos rfl] at c35o
          rw [hM0, if_pos rfl] at c35m
          rw [hM0] at c29m
          have hw := hO.w; have hh := hO.h
          have mwg : 1 ≤ s.1 * s.2.1 ∧ s.1 * s.2.1 ≤ 144 := by
            have h1 : (1 : Int) * 1 ≤ s.1 * s.2.1 := Int.mul_le_mul hw.1 hh.1 (by decide) (by omega)
            have h2 : s.1 * s.2.1 ≤ 12 * 12 := Int.mul_le_mul hw.2 hh.2 (by omega) (by decide)
            omega
          have lx : (stS s []).length = (s.1 * s.2.1).toNat := stS_len
          have ly : (stS o []).length = (s.1 * s.2.1).toNat := by rw [stS_len, ← hm1.1, ← hm1.2]
          have lz : (stS (s.1, s.2.1, s.2.2 ++ o.2.2) []).length = (s.1 * s.2.1).toNat := stS_len
          have hz : ∀ i, i < (s.1 * s.2.1).toNat → (stS (s.1, s.2.1, s.2.2 ++ o.2.2) []).getD i 0 = orI ((stS s []).getD i 0) ((stS o []).getD i 0) := fun i hi => by
            rw [stS_merged hi]
            have : o = (s.1, s.2.1, o.2.2) := by rw [hm1.1, hm1.2]
            rw [← this]
          have bx := fun i => stS_bd (s := s) (wo := []) i
          have bY := fun i => stS_bd (s := o) (wo := []) i
          have hz0 : ∀ i, i < (s.1 * s.2.1).toNat → ((stS (s.1, s.2.1, s.2.2 ++ o.2.2) []).getD i 0 = 0 ↔ (stS s []).getD i 0 = 0 ∧ (stS o []).getD i 0 = 0) ∧ ((stS s []).getD i 0 = 1 → (stS o []).getD i 0 = 1 → (stS (s.1, s.2.1, s.2.2 ++ o.2.2) []).getD i 0 = 1) := fun i hi => by
            rw [hz i hi]
            rcases or4 (bx i) with h | h | h | h <;> rcases or4 (bY i) with h' | h' | h' | h' <;> rw [h, h'] <;> decide
          clear hz bx bY hM0 hm
          generalize stS (s.1, s.2.1, s.2.2 ++ o.2.2) [] = Z at *
          generalize stS s [] = X at *
          generalize stS o [] = Y at *
          generalize s.2.2 ++ o.2.2 = M at *
          (repeat' first | (refine Owe.same ?_; first | refine Owe.o ?_ | refine Owe.mk ?_ ?_) | (refine Fork.same ?_; (first | refine fkY ?_ | refine fkF ?_ | ((first | refine fkD ?_ ?_ | refine fkN ?_ ?_ | refine fkM ?_ ?_) <;> intro h))) | ((first | refine OpsL.same ?_ | refine OpsDL.same ?_); first | refine oK c33 rfl rfl rfl ?_ | refine oK c3 rfl rfl rfl ?_ | refine oK c3' rfl rfl rfl ?_ | refine oK c34 rfl rfl rfl ?_ | refine oK c35 rfl rfl rfl ?_ | refine oK c35o rfl rfl rfl ?_ | refine oK c29m rfl rfl rfl ?_ | refine oK c35m rfl rfl rfl ?_) | refine MvQ.stay ?_)
          refine Sat.lp0 (fun i : Nat => [(22, vi .i64 i), (20, .c (ints Z)), (16, .c (ints X)), (18, .c (ints Y))]) (fun i => i ≤ Z.length) (fun i => Z.length - i) 0 (Nat.zero_le _) (by ((first | refine qen ?_ | refine qvs ?_ | refine qeq ?_ | refine qst ?_ | refine qv ?_ | refine qc ?_ | refine qe ?_ | refine qcs ?_ | skip); (repeat' first | exact rfl | (refine qS ?_; constructor)))) ?_
          intro i hi
          refine Fork.dec (fun hlt => ?_) (fun hlt => ?_)
          · have hlt : i < Z.length := by omega
            have hzi := hz0 i (by omega)
            (repeat' first | (refine Owe.same ?_; first | refine Owe.o ?_ | refine Owe.mk ?_ ?_) | (refine Fork.same ?_; (first | refine fkY ?_ | refine fkF ?_ | ((first | refine fkD ?_ ?_ | refine fkN ?_ ?_ | refine fkM ?_ ?_) <;> intro h))) | ((first | refine OpsL.same ?_ | refine OpsDL.same ?_); first | refine oK c33 rfl rfl rfl ?_) | refine MvQ.stay ?_)
            · exfalso
              rename_i h9
              rw [decide_eq_decide] at h
              simp only [Int.toNat_natCast] at h h9
              exact h ⟨fun hh => (hzi.1.1 hh).2, fun hh => hzi.1.2 ⟨h9, hh⟩⟩
            · exact again0 (i + 1) hlt (by omega) (by ((first | refine qen ?_ | refine qvs ?_ | refine qeq ?_ | refine qst ?_ | refine qv ?_ | refine qc ?_ | refine qe ?_ | refine qcs ?_ | skip); (repeat' first | exact rfl | (refine qS ?_; constructor))))
            · exfalso
              rename_i h9
              simp only [Int.toNat_natCast] at h h9
              exact h (decide_eq_false fun hh => h9 (hzi.1.1 hh).1)
            · exfalso
              rename_i h8 h9
              exact h (hzi.2 h8 h9)
            · exact again0 (i + 1) hlt (by omega) (by ((first | refine qen ?_ | refine qvs ?_ | refine qeq ?_ | refine qst ?_ | refine qv ?_ | refine qc ?_ | refine qe ?_ | refine qcs ?_ | skip); (repeat' first | exact rfl | (refine qS ?_; constructor))))
            · exact again0 (i + 1) hlt (by omega) (by ((first | refine qen ?_ | refine qvs ?_ | refine qeq ?_ | refine qst ?_ | refine qv ?_ | refine qc ?_ | refine qe ?_ | refine qcs ?_ | skip); (repeat' first | exact rfl | (refine qS ?_; constructor))))
            · exact again0 (i + 1) hlt (by omega) (by ((first | refine qen ?_ | refine qvs ?_ | refine qeq ?_ | refine qst ?_ | refine qv ?_ | refine qc ?_ | refine qe ?_ | refine qcs ?_ | skip); (repeat' first | exact rfl | (refine qS ?_; constructor))))
          · (repeat' first | (refine Owe.same ?_; first | refine Owe.o ?_ | refine Owe.mk ?_ ?_) | (refine Fork.same ?_; (first | refine fkY ?_ | refine fkF ?_ | ((first | refine fkD ?_ ?_ | refine fkN ?_ ?_ | refine fkM ?_ ?_) <;> intro h))) | ((first | refine OpsL.same ?_ | refine OpsDL.same ?_); first | refine oK c33 rfl rfl rfl ?_) | refine MvQ.stay ?_)
            (refine rqK rfl ?_; (repeat' first | exact rfl | (refine qS ?_; constructor)))
        · generalize meE s o = e at *
          (repeat' first | (refine Owe.same ?_; first | refine Owe.o ?_ | refine Owe.mk ?_ ?_) | (refine Fork.same ?_; (first | refine fkY ?_ | refine fkF ?_ | ((first | refine fkD ?_ ?_ | refine fkN ?_ ?_ | refine fkM ?_ ?_) <;> intro h))) | ((first | refine OpsL.same ?_ | refine OpsDL.same ?_); first | refine oK c33 rfl rfl rfl ?_) | refine MvQ.stay ?_)
          (refine rqK rfl ?_; (repeat' first | exact rfl | (refine qS ?_; constructor)))
  · generalize (scE s).2 = e at *
    generalize (scE o).2 = e' at *
    refine pi1 fn7 ?_
    (repeat' first | (refine Owe.same ?_; first | refine Owe.o ?_ | refine Owe.mk ?_ ?_) | (refine Fork.same ?_; (first | refine fkY ?_ | refine fkF ?_ | ((first | refine fkD ?_ ?_ | refine fkN ?_ ?_ | refine fkM ?_ ?_) <;> intro h))) | ((first | refine OpsL.same ?_ | refine OpsDL.same ?_); first | refine oK C8 rfl rfl rfl ?_ | refine oK c1 rfl rfl rfl ?_ | refine oK c2 rfl rfl rfl ?_) | refine MvQ.stay ?_)
    all_goals (refine rqK rfl ?_; (repeat' first | exact rfl | (refine qS ?_; constructor)))
end Go.Pw

namespace Go.Proofs.Ytbgikbenhglmkaa
open Go.ChangeShapes Go.WideShapes Go.ChangeAt Go.RowKit Go.Pw
theorem Try.own : ownKnob Try.prog.godebug = none := by kernel_rfl
theorem Try.laidOut : laidOutB Try.prog = true := by kernel_rfl
theorem shapes : shAll Try.prog [71, 71] = some [(true, [.int .i64, .int .i64, .sl [.int .i64, .int .i64, .int .i64, .int .i64, .bool]]), (true, [.int .i64, .int .i64, .sl [.int .i64, .int .i64, .int .i64, .int .i64, .bool]])] := by kernel_rfl
theorem law (args : List V) (h : ArgOk [(true, [.int .i64, .int .i64, .sl [.int .i64, .int .i64, .int .i64, .int .i64, .bool]]), (true, [.int .i64, .int .i64, .sl [.int .i64, .int .i64, .int .i64, .int .i64, .bool]])] args) : PFD Try.prog 7 args (vbl true) := by
  match args, h with
  | [v0, v1], ⟨h0, h1, _⟩ =>
    obtain ⟨s0, r0, q0⟩ := arg_scene h0
    obtain ⟨s1, r1, q1⟩ := arg_scene h1
    exact PFD.ri C7 (.cons r0 (.cons r1 .nil))
set_option maxRecDepth 100000 in
theorem lifted (os : Os) (started : os.Started) (H : Type) (enc : TypeId × Value → H) :
    ReturnsInHanded {} Try.checked os 7 .any (Rows.sonarOddSpec.pre6 enc Try.prog Try.f7 Rows.sonarOddRow.domain false) (Rows.sonarOddSpec.post enc Try.prog Try.f7 false true false false) := by
  refine returnsInHanded_of_change (C := Try.checked) Try.own started (by kernel_rfl) Try.func7
    (ChangeSpec.witness6 (enc := enc) (C := Try.checked) false ⟨#[], #[.agg #[.int .i64 0, .int .i64 0, .slice none 0 0], .agg #[.int .i64 0, .int .i64 0, .slice none 0 0]], []⟩ 8 (by kernel_rfl) (by kernel_rfl) (by kernel_rfl) (by kernel_rfl)) ?_
  intro W base args ds gs before hval0 hW hcnd _
  exact law_calls (P := Try.prog) (F := Try.f7) (tb := 4) Try.laidOut (by rw [Try.params7]; exact shapes) rfl (fun ds hl => by
    rw [Try.params7] at hl
    match ds, hl with
    | [d0, d1], _ => rfl) (by kernel_rfl) Try.underlying4 law W base args ds gs before hval0 hW
theorem row_holds : Rows.SonarOddSaid :=
  OpenClaim.holds_of_wide 7 Try.f7 rfl rfl rfl rfl rfl rfl rfl ⟨rfl, rfl, rfl, rfl, rfl⟩ rfl rfl rfl rfl rfl (by kernel_rfl) Try.func7 (by kernel_rfl)
    (of_decide_eq_true (by kernel_rfl)) (by unfold Func.isWrapper; rw [if_neg (by decide +kernel)]; exact ⟨rfl, rfl⟩)
    (fun os started H enc _ => lifted os started H enc)
end Go.Proofs.Ytbgikbenhglmkaa
