/- Proved here at the end: the row named in the last theorem, on no condition. -/
import Derived.Test.YtkoohllimmkmoaaCableBoxesE
import Derived.Test.YtkoohllimmkmoaaProg
import Derived.Test.YtkoohllimmkmoaaRows
set_option linter.unusedSimpArgs false
namespace Go.Pw
open Go Go.Proofs
abbrev slkN (x z : Int) (l : List Lk) : Int := if (fltL (slP (stl x z l)) l.length).length = 0 then 0 else 21
theorem C60 {x z : Int} {l : List Lk} : LnOk x z l → PFD Try.prog 60 [.agg [int x, int z, trs l]] (vi .i64 (slkN x z l)) := fun h => by
  have c1 := C53 h
  have hl := fltL_len (slP (stl x z l)) l.length
  have hn := h.n
  simp only [slkN]
  generalize fltL (slP (stl x z l)) l.length = s at *
  refine PFD.of (vs := [_]) fn60 rfl (by (simp only [cloL, clo, cloC, cloCs, and_self])) ?_
  (repeat' first | (refine Owe.mk ?_ ?_; (· (first | trivial | omega | ((try simp only [R64, true_and, and_true, Int.toNat_natCast, List.length_cons, List.length_nil]); omega)))) | (refine Fork.same ?_; first | refine Fork.dec (fun h => ?_) (fun h => ?_) | refine Fork.ndec (fun h => ?_) (fun h => ?_) | refine Fork.mk (fun h => ?_) (fun h => ?_)) | (refine OpsL.same ?_; first | refine Ops.pc rfl (Fits.eq rfl) c1 rfl ?_ | (refine Ops.pcp rfl (Fits.eq rfl) c1 rfl ?_ ?_; (· (first | trivial | omega | ((try simp only [R64, true_and, and_true, Int.toNat_natCast, List.length_cons, List.length_nil]); omega)))) ) | (refine OpsDL.same ?_; first | refine OpsD.pc rfl (Fits.eq rfl) c1 rfl ?_ | (refine OpsD.pcp rfl (Fits.eq rfl) c1 rfl ?_ ?_; (· (first | trivial | omega | ((try simp only [R64, true_and, and_true, Int.toNat_natCast, List.length_cons, List.length_nil]); omega)))) ) | refine MvQ.stay ?_ | refine Owe.mk ?_ ?_)
  · (refine RetQ.plain (Nat.le_refl _) (by first | exact .inr rfl | exact .inl rfl) rfl (by (simp only [cloL, clo, cloC, cloCs, and_self])) ?_; (repeat' first | exact True.intro | exact VEq.refl _ | exact EEq.same _ | exact CEq.refl _ | exact VEq.int rfl | apply VEq.tru | apply VEq.fls | apply VEq.bool | apply VEq.int | exact VEq.nill rfl | exact VEq.zl rfl | exact VEq.nil | exact VEq.li_1 | exact VEq.li_2 | exact VEq.li_3 | exact VEq.li_4 | exact VEq.lp_1 | exact VEq.lp_2 | exact VEq.lp_3 | exact VEq.lp_4 | exact VEq.lt_1 | exact VEq.lt_2 | exact VEq.lt_3 | apply VEq.ms | apply VEq.sll | apply VEq.aggs | apply EEq.boxs | apply EEq.app1 | apply EEq.app2 | apply EEq.app3 | apply CEq.ms | apply CEq.int | apply CEq.sll | exact CEq.nill rfl | apply And.intro | exact rfl)); rw [if_neg (by omega)]
  · (refine RetQ.plain (Nat.le_refl _) (by first | exact .inr rfl | exact .inl rfl) rfl (by (simp only [cloL, clo, cloC, cloCs, and_self])) ?_; (repeat' first | exact True.intro | exact VEq.refl _ | exact EEq.same _ | exact CEq.refl _ | exact VEq.int rfl | apply VEq.tru | apply VEq.fls | apply VEq.bool | apply VEq.int | exact VEq.nill rfl | exact VEq.zl rfl | exact VEq.nil | exact VEq.li_1 | exact VEq.li_2 | exact VEq.li_3 | exact VEq.li_4 | exact VEq.lp_1 | exact VEq.lp_2 | exact VEq.lp_3 | exact VEq.lp_4 | exact VEq.lt_1 | exact VEq.lt_2 | exact VEq.lt_3 | apply VEq.ms | apply VEq.sll | apply VEq.aggs | apply EEq.boxs | apply EEq.app1 | apply EEq.app2 | apply EEq.app3 | apply CEq.ms | apply CEq.int | apply CEq.sll | exact CEq.nill rfl | apply And.intro | exact rfl)); rw [if_pos (by omega)]
theorem C122 {g : Int} {t : Rg} : ((1 ≤ g ∧ g ≤ 1000) ∧ tnOk t) → PFD Try.prog 122 [vi .i64 g, .agg [int t.1, int t.2]] (.agg [int (frac (g * t.1) t.2).1, int (frac (g * t.1) t.2).2]) := fun ⟨h1, h2, h3⟩ => by
  have h4 := mbd (A := 1000) (B := 20000) (a := g) (b := t.1) (by omega) h2
  have c1 := C121 (n := g * t.1) (d := t.2) (by omega)
  obtain ⟨f, hf⟩ : ∃ f, f = frac (g * t.1) t.2 := ⟨_, rfl⟩
  rw [← hf] at c1 ⊢
  refine PFD.of (vs := [_]) fn122 rfl (by (simp only [cloL, clo, cloC, cloCs, and_self])) ?_
  (repeat' first | (refine Owe.mk ?_ ?_; (· (first | trivial | omega | ((try simp only [R64, true_and, and_true, Int.toNat_natCast, List.length_cons, List.length_nil]); omega)))) | (refine Fork.same ?_; first | refine Fork.dec (fun h => ?_) (fun h => ?_) | refine Fork.ndec (fun h => ?_) (fun h => ?_) | refine Fork.mk (fun h => ?_) (fun h => ?_)) | (refine OpsL.same ?_; first | refine Ops.pc rfl (Fits.eq rfl) c1 rfl ?_ | (refine Ops.pcp rfl (Fits.eq rfl) c1 rfl ?_ ?_; (· (first | trivial | omega | ((try simp only [R64, true_and, and_true, Int.toNat_natCast, List.length_cons, List.length_nil]); omega)))) ) | (refine OpsDL.same ?_; first | refine OpsD.pc rfl (Fits.eq rfl) c1 rfl ?_ | (refine OpsD.pcp rfl (Fits.eq rfl) c1 rfl ?_ ?_; (· (first | trivial | omega | ((try simp only [R64, true_and, and_true, Int.toNat_natCast, List.length_cons, List.length_nil]); omega)))) ) | refine MvQ.stay ?_ | refine Owe.mk ?_ ?_)
  (refine RetQ.plain (Nat.le_refl _) (by first | exact .inr rfl | exact .inl rfl) rfl (by (simp only [cloL, clo, cloC, cloCs, and_self])) ?_; (repeat' first | exact True.intro | exact VEq.refl _ | exact EEq.same _ | exact CEq.refl _ | exact VEq.int rfl | apply VEq.tru | apply VEq.fls | apply VEq.bool | apply VEq.int | exact VEq.nill rfl | exact VEq.zl rfl | exact VEq.nil | exact VEq.li_1 | exact VEq.li_2 | exact VEq.li_3 | exact VEq.li_4 | exact VEq.lp_1 | exact VEq.lp_2 | exact VEq.lp_3 | exact VEq.lp_4 | exact VEq.lt_1 | exact VEq.lt_2 | exact VEq.lt_3 | apply VEq.ms | apply VEq.sll | apply VEq.aggs | apply EEq.boxs | apply EEq.app1 | apply EEq.app2 | apply EEq.app3 | apply CEq.ms | apply CEq.int | apply CEq.sll | exact CEq.nill rfl | apply And.intro | exact rfl))
theorem C63 {x z : Int} {l : List Lk} {c : List Int} : (opL x z l c).Tight → PFD Try.prog 63 [.agg [int x, int z, trs l], .c (ints c)] (.c (prs (accL (ofF (opL x z l c)) l.length))) := fun hT => by
  have hL := hT.toOk
  have c1 := C40 hL
  have hn : 0 < l.length ∧ l.length ≤ 10 := hL.k.n
  have hlen := accL_len (tnF (opL x z l c)) l.length
  have ht : ∀ i, i < l.length → tnOk ((accL (tnF (opL x z l c)) l.length).getD i (0, 0)) := fun i hi => tn_ok hT (by rw [accL_len]; exact hi)
  have hg : ∀ i, i < l.length → (accL (tnF (opL x z l c)) l.length).getD i (0, 0) = tnF (opL x z l c) i := fun i hi => accL_get _ hi
  obtain ⟨L, hLe⟩ : ∃ L, L = opL x z l c := ⟨_, rfl⟩
  have hlk : ∀ i, i < l.length → 1 ≤ (l.getD i (0, 0, 0)).1 ∧ (l.getD i (0, 0, 0)).1 ≤ 1000 := fun i hi => (hL.lk hi).1
  have hh : ∀ i, L.h i = (l.getD i (0, 0, 0)).1 := fun i => by rw [hLe]; rfl
  rw [← hLe] at c1 ht hg hlen ⊢
  generalize accL (tnF L) l.length = T at *
  refine PFD.of (vs := [_]) fn63 rfl (by (simp only [cloL, clo, cloC, cloCs, and_self])) ?_
  (repeat' first | (refine Owe.mk ?_ ?_; (· (first | trivial | omega | ((try simp only [R64, true_and, and_true, Int.toNat_natCast, List.length_cons, List.length_nil]); omega)))) | (refine Fork.same ?_; first | refine Fork.dec (fun h => ?_) (fun h => ?_) | refine Fork.ndec (fun h => ?_) (fun h => ?_) | refine Fork.mk (fun h => ?_) (fun h => ?_)) | (refine OpsL.same ?_; first | refine Ops.pc rfl (Fits.eq rfl) c1 rfl ?_ | (refine Ops.pcp rfl (Fits.eq rfl) c1 rfl ?_ ?_; (· (first | trivial | omega | ((try simp only [R64, true_and, and_true, Int.toNat_natCast, List.length_cons, List.length_nil]); omega)))) ) | (refine OpsDL.same ?_; first | refine OpsD.pc rfl (Fits.eq rfl) c1 rfl ?_ | (refine OpsD.pcp rfl (Fits.eq rfl) c1 rfl ?_ ?_; (· (first | trivial | omega | ((try simp only [R64, true_and, and_true, Int.toNat_natCast, List.length_cons, List.length_nil]); omega)))) ) | refine MvQ.stay ?_ | refine Owe.mk ?_ ?_)
  refine Sat.nilS 5 89 2 (fun i => r2 (([] : List Rg).getD i (0, 0))) rfl ?_
  refine Sat.lp (fun k : Nat => ⟨[(7, vi .i64 k), (6, .c (prs T)), (5, .c (.ms 1 (accL (ofF L) k).length)), (2, .c (.bp 0 0))], [(1, rowv 89 2 r2 (0, 0) (accL (ofF L) k)), (0, .box [int x, int z, trs l])], 2⟩)
    (fun k => k ≤ l.length) (fun k => l.length - k) 0 [0, 1] (Nat.zero_le _) ?_ ?_
  · refine ⟨rfl, ?_, ?_⟩ <;> (repeat' first | exact True.intro | exact VEq.refl _ | exact EEq.same _ | exact CEq.refl _ | exact VEq.int rfl | apply VEq.tru | apply VEq.fls | apply VEq.bool | apply VEq.int | exact VEq.nill rfl | exact VEq.zl rfl | exact VEq.nil | exact VEq.li_1 | exact VEq.li_2 | exact VEq.li_3 | exact VEq.li_4 | exact VEq.lp_1 | exact VEq.lp_2 | exact VEq.lp_3 | exact VEq.lp_4 | exact VEq.lt_1 | exact VEq.lt_2 | exact VEq.lt_3 | apply VEq.ms | apply VEq.sll | apply VEq.aggs | apply EEq.boxs | apply EEq.app1 | apply EEq.app2 | apply EEq.app3 | apply CEq.ms | apply CEq.int | apply CEq.sll | exact CEq.nill rfl | apply And.intro | exact rfl)
  · intro k hk
    have hm := accL_len (ofF L) k
    have hs := accL_succ (ofF L) k
    refine Fork.dec (fun hlt => ?_) (fun hlt => ?_)
    · have hlt : k < l.length := by omega
      have c2 := C122 (g := (l.getD k (0, 0, 0)).1) (t := T.getD k (0, 0)) ⟨hlk k hlt, ht k hlt⟩
      obtain ⟨f, hf⟩ : ∃ f, f = ofF L k := ⟨_, rfl⟩
      have hfe : frac ((l.getD k (0, 0, 0)).1 * (T.getD k (0, 0)).1) (T.getD k (0, 0)).2 = f := by rw [hf, hg k hlt, ofF, hh]
      rw [hfe] at c2
      rw [← hf] at hs
      (repeat' first | (refine Owe.mk ?_ ?_; (· (first | trivial | omega | ((try simp only [R64, true_and, and_true, Int.toNat_natCast, List.length_cons, List.length_nil]); omega)))) | (refine Fork.same ?_; first | refine Fork.dec (fun h => ?_) (fun h => ?_) | refine Fork.ndec (fun h => ?_) (fun h => ?_) | refine Fork.mk (fun h => ?_) (fun h => ?_)) | (refine OpsL.same ?_; first | refine Ops.pc rfl (Fits.eq rfl) c2 rfl ?_ | (refine Ops.pcp rfl (Fits.eq rfl) c2 rfl ?_ ?_; (· (first | trivial | omega | ((try simp only [R64, true_and, and_true, Int.toNat_natCast, List.length_cons, List.length_nil]); omega)))) ) | (refine OpsDL.same ?_; first | refine OpsD.pc rfl (Fits.eq rfl) c2 rfl ?_ | (refine OpsD.pcp rfl (Fits.eq rfl) c2 rfl ?_ ?_; (· (first | trivial | omega | ((try simp only [R64, true_and, and_true, Int.toNat_natCast, List.length_cons, List.length_nil]); omega)))) ) | refine MvQ.stay ?_ | refine Owe.mk ?_ ?_)
      refine again (k + 1) [0, 14] hlt (by omega) ?_
      refine ⟨rfl, ?_, ?_⟩ <;> (repeat' first | exact True.intro | exact VEq.refl _ | exact EEq.same _ | exact CEq.refl _ | exact VEq.int rfl | apply VEq.tru | apply VEq.fls | apply VEq.bool | apply VEq.int | exact VEq.nill rfl | exact VEq.zl rfl | exact VEq.nil | exact VEq.li_1 | exact VEq.li_2 | exact VEq.li_3 | exact VEq.li_4 | exact VEq.lp_1 | exact VEq.lp_2 | exact VEq.lp_3 | exact VEq.lp_4 | exact VEq.lt_1 | exact VEq.lt_2 | exact VEq.lt_3 | apply VEq.ms | apply VEq.sll | apply VEq.aggs | apply EEq.boxs | apply EEq.app1 | apply EEq.app2 | apply EEq.app3 | apply CEq.ms | apply CEq.int | apply CEq.sll | exact CEq.nill rfl | apply And.intro | exact rfl)
      · rw [hs]; simp
      · exact hs
    · (repeat' first | (refine Owe.mk ?_ ?_; (· (first | trivial | omega | ((try simp only [R64, true_and, and_true, Int.toNat_natCast, List.length_cons, List.length_nil]); omega)))) | (refine Fork.same ?_; first | refine Fork.dec (fun h => ?_) (fun h => ?_) | refine Fork.ndec (fun h => ?_) (fun h => ?_) | refine Fork.mk (fun h => ?_) (fun h => ?_)) | refine MvQ.stay ?_ | refine Owe.mk ?_ ?_)
      have : k = l.length := by omega
      subst this
      refine RetQ.of (by first | exact .inr rfl | exact .inl rfl) rfl rfl ((Mv.freeze 0 _ rfl rfl (Nat.le_refl _)).trans (Mv.plain (by rfl) ?_)); (repeat' first | exact True.intro | exact VEq.refl _ | exact EEq.same _ | exact CEq.refl _ | exact VEq.int rfl | apply VEq.tru | apply VEq.fls | apply VEq.bool | apply VEq.int | exact VEq.nill rfl | exact VEq.zl rfl | exact VEq.nil | exact VEq.li_1 | exact VEq.li_2 | exact VEq.li_3 | exact VEq.li_4 | exact VEq.lp_1 | exact VEq.lp_2 | exact VEq.lp_3 | exact VEq.lp_4 | exact VEq.lt_1 | exact VEq.lt_2 | exact VEq.lt_3 | apply VEq.ms | apply VEq.sll | apply VEq.aggs | apply EEq.boxs | apply EEq.app1 | apply EEq.app2 | apply EEq.app3 | apply CEq.ms | apply CEq.int | apply CEq.sll | exact CEq.nill rfl | apply And.intro | exact rfl)
theorem frac_floor {n d : Int} (hd : 0 < d) : (frac n d).1 / (frac n d).2 = n / d := by
  have hg := gcd_pos (n := n) hd
  obtain ⟨a, ha⟩ : gcdI n d ∣ n := Int.gcd_dvd_left ..
  obtain ⟨b, hb⟩ : gcdI n d ∣ d := Int.gcd_dvd_right ..
  have e1 : n.tdiv (gcdI n d) = a := by
    have : (gcdI n d * a).tdiv (gcdI n d) = a := Int.mul_tdiv_cancel_left a (by omega)
    rwa [← ha] at this
  have e2 : d.tdiv (gcdI n d) = b := by
    have : (gcdI n d * b).tdiv (gcdI n d) = b := Int.mul_tdiv_cancel_left b (by omega)
    rwa [← hb] at this
  show n.tdiv (gcdI n d) / d.tdiv (gcdI n d) = n / d
  rw [e1, e2]
  have : gcdI n d * a / (gcdI n d * b) = a / b := Int.mul_ediv_mul_of_pos _ _ hg
  rw [← this, ← ha, ← hb]
theorem frac_neg {n d : Int} : (frac (-n) d).1 = -(frac n d).1 ∧ (frac (-n) d).2 = (frac n d).2 := by
  have e : gcdI (-n) d = gcdI n d := by show ((Nat.gcd (-n).natAbs d.natAbs : Nat) : Int) = _; rw [Int.natAbs_neg]; rfl
  exact ⟨by show (-n).tdiv (gcdI (-n) d) = -(n.tdiv (gcdI n d)); rw [e, Int.neg_tdiv], by show d.tdiv (gcdI (-n) d) = d.tdiv (gcdI n d); rw [e]⟩
theorem frac_ceil {n d : Int} (hd : 0 < d) : ceilI (frac n d).1 (frac n d).2 = ceilI n d := by
  have h := frac_floor (n := -n) hd
  rw [frac_neg.1, frac_neg.2] at h
  show -(-(frac n d).1 / (frac n d).2) = -(-n / d)
  rw [h]
theorem opL_ph {x z : Int} {l : List Lk} {c : List Int} (h : c.length = l.length) : ∀ k : Nat, k ≤ l.length → (opL x z l c).ph k = (opL x z l c).pl k
  | 0, _ => rfl
  | k + 1, hk => by
    have e : (opL x z l c).hi k = (opL x z l c).lo k := by simp only [Ln.hi, Ln.lo, dup_get (show k < c.length by omega)]
    show (opL x z l c).ph k + (opL x z l c).d k * (opL x z l c).hi k = (opL x z l c).pl k + (opL x z l c).d k * (opL x z l c).lo k
    rw [opL_ph h k (by omega), e]
theorem C64 {x z : Int} {l : List Lk} {c : List Int} : (opL x z l c).Tight → PFD Try.prog 64 [.agg [int x, int z, trs l], .c (ints c)] (.agg [int (laybk (opL x z l c)).1, int (laybk (opL x z l c)).2]) := fun hT => by
  have hL := hT.toOk
  have c1 := C63 hT
  have hn : 0 < l.length ∧ l.length ≤ 10 := hL.k.n
  have hcl : c.length = l.length := by have := hL.b; simpa using this
  have hlen := accL_len (ofF (opL x z l c)) l.length
  have hg : ∀ i, i < l.length → (accL (ofF (opL x z l c)) l.length).getD i (0, 0) = ofF (opL x z l c) i := fun i hi => accL_get _ hi
  have hf : ∀ i, i < l.length → (Md (ofF (opL x z l c) i).1 ∧ 0 < (ofF (opL x z l c) i).2) ∧ (ofF (opL x z l c) i).1 / (ofF (opL x z l c) i).2 = lbF (opL x z l c) i ∧ ceilI (ofF (opL x z l c) i).1 (ofF (opL x z l c) i).2 = ubF (opL x z l c) i := fun i hi => by
    have h1 := hT.t i hi
    have h2 := hT.hl hi
    have h3 := tdiv_bd (a := (opL x z l c).h i * (opL x z l c).pl (i + 1)) (b := gcdI ((opL x z l c).h i * (opL x z l c).pl (i + 1)) ((opL x z l c).pz (i + 1))) (M := 4611686018427387904) (by omega)
    refine ⟨⟨h3, ?_⟩, frac_floor h1, ?_⟩
    · have hgp := gcd_pos (n := (opL x z l c).h i * (opL x z l c).pl (i + 1)) h1
      show 0 < ((opL x z l c).pz (i + 1)).tdiv _
      rw [Int.tdiv_eq_ediv_of_nonneg (by omega)]
      exact Int.ediv_pos_of_pos_of_dvd h1 (by omega) (Int.gcd_dvd_right ..)
    · rw [frac_ceil h1]; simp only [ubF]; rw [opL_ph hcl _ (by omega)]
  have hlb : ∀ i, i < l.length → -20000000 ≤ lbF (opL x z l c) i ∧ lbF (opL x z l c) i ≤ 20000000 := fun i hi => hT.lb hi
  have hub : ∀ i, i < l.length → -20000000 ≤ ubF (opL x z l c) i ∧ ubF (opL x z l c) i ≤ 20000000 := fun i hi => hT.ub hi
  show PFD Try.prog 64 [.agg [int x, int z, trs l], .c (ints c)] (.agg [int (sumI (lbF (opL x z l c)) l.length), int (sumI (ubF (opL x z l c)) l.length)])
  generalize opL x z l c = L at *
  generalize accL (ofF L) l.length = F at *
  refine PFD.of (vs := [_]) fn64 rfl (by (simp only [cloL, clo, cloC, cloCs, and_self])) ?_
  (repeat' first | (refine Owe.mk ?_ ?_; (· (first | trivial | omega | ((try simp only [R64, true_and, and_true, Int.toNat_natCast, List.length_cons, List.length_nil]); omega)))) | (refine Fork.same ?_; first | refine Fork.dec (fun h => ?_) (fun h => ?_) | refine Fork.ndec (fun h => ?_) (fun h => ?_) | refine Fork.mk (fun h => ?_) (fun h => ?_)) | (refine OpsL.same ?_; first | refine Ops.pc rfl (Fits.eq rfl) c1 rfl ?_ | (refine Ops.pcp rfl (Fits.eq rfl) c1 rfl ?_ ?_; (· (first | trivial | omega | ((try simp only [R64, true_and, and_true, Int.toNat_natCast, List.length_cons, List.length_nil]); omega)))) ) | (refine OpsDL.same ?_; first | refine OpsD.pc rfl (Fits.eq rfl) c1 rfl ?_ | (refine OpsD.pcp rfl (Fits.eq rfl) c1 rfl ?_ ?_; (· (first | trivial | omega | ((try simp only [R64, true_and, and_true, Int.toNat_natCast, List.length_cons, List.length_nil]); omega)))) ) | refine MvQ.stay ?_ | refine Owe.mk ?_ ?_)
  refine Sat.lp (fun k : Nat => ⟨[(7, vi .i64 k), (6, .c (prs F)), (5, .c (.bp 2 0)), (4, .c (.bp 1 0))], [(2, .box [int (sumI (lbF L) k), int (sumI (ubF L) k)]), (1, .box [int 0, int 0])], 3⟩)
    (fun k => k ≤ l.length) (fun k => l.length - k) 0 [0, 1, 2] (Nat.zero_le _) ?_ ?_
  · refine ⟨rfl, ?_, ?_⟩ <;> (repeat' first | exact True.intro | exact VEq.refl _ | exact EEq.same _ | exact CEq.refl _ | exact VEq.int rfl | apply VEq.tru | apply VEq.fls | apply VEq.bool | apply VEq.int | exact VEq.nill rfl | exact VEq.zl rfl | exact VEq.nil | exact VEq.li_1 | exact VEq.li_2 | exact VEq.li_3 | exact VEq.li_4 | exact VEq.lp_1 | exact VEq.lp_2 | exact VEq.lp_3 | exact VEq.lp_4 | exact VEq.lt_1 | exact VEq.lt_2 | exact VEq.lt_3 | apply VEq.ms | apply VEq.sll | apply VEq.aggs | apply EEq.boxs | apply EEq.app1 | apply EEq.app2 | apply EEq.app3 | apply CEq.ms | apply CEq.int | apply CEq.sll | exact CEq.nill rfl | apply And.intro | exact rfl)
  · intro k hk
    refine Fork.dec (fun hlt => ?_) (fun hlt => ?_)
    · have hlt : k < l.length := by omega
      obtain ⟨h1, h2, h3⟩ := hf k hlt
      have h4 := hlb k hlt
      have h5 := hub k hlt
      have h6 := sumI_bd (f := lbF L) (M := 20000000) (n := l.length) hlb k hk
      have h7 := sumI_bd (f := ubF L) (M := 20000000) (n := l.length) hub k hk
      rw [← hg k hlt] at h1 h2 h3
      have c2 := C123 (n := (F.getD k (0, 0)).1) (b := (F.getD k (0, 0)).2) h1
      have c3 := C124 (n := (F.getD k (0, 0)).1) (b := (F.getD k (0, 0)).2) h1
      rw [h2] at c2
      rw [h3] at c3
      have e1 : sumI (lbF L) (k + 1) = sumI (lbF L) k + lbF L k := rfl
      have e2 : sumI (ubF L) (k + 1) = sumI (ubF L) k + ubF L k := rfl
      generalize lbF L k = p at *
      generalize ubF L k = q at *
      (repeat' first | (refine Owe.mk ?_ ?_; (· (first | trivial | omega | ((try simp only [R64, true_and, and_true, Int.toNat_natCast, List.length_cons, List.length_nil]); omega)))) | (refine Fork.same ?_; first | refine Fork.dec (fun h => ?_) (fun h => ?_) | refine Fork.ndec (fun h => ?_) (fun h => ?_) | refine Fork.mk (fun h => ?_) (fun h => ?_)) | (refine OpsL.same ?_; first | refine Ops.pc rfl (Fits.eq rfl) c2 rfl ?_ | (refine Ops.pcp rfl (Fits.eq rfl) c2 rfl ?_ ?_; (· (first | trivial | omega | ((try simp only [R64, true_and, and_true, Int.toNat_natCast, List.length_cons, List.length_nil]); omega)))) | refine Ops.pc rfl (Fits.eq rfl) c3 rfl ?_ | (refine Ops.pcp rfl (Fits.eq rfl) c3 rfl ?_ ?_; (· (first | trivial | omega | ((try simp only [R64, true_and, and_true, Int.toNat_natCast, List.length_cons, List.length_nil]); omega)))) ) | (refine OpsDL.same ?_; first | refine OpsD.pc rfl (Fits.eq rfl) c2 rfl ?_ | (refine OpsD.pcp rfl (Fits.eq rfl) c2 rfl ?_ ?_; (· (first | trivial | omega | ((try simp only [R64, true_and, and_true, Int.toNat_natCast, List.length_cons, List.length_nil]); omega)))) | refine OpsD.pc rfl (Fits.eq rfl) c3 rfl ?_ | (refine OpsD.pcp rfl (Fits.eq rfl) c3 rfl ?_ ?_; (· (first | trivial | omega | ((try simp only [R64, true_and, and_true, Int.toNat_natCast, List.length_cons, List.length_nil]); omega)))) ) | refine MvQ.stay ?_ | refine Owe.mk ?_ ?_)
      refine again (k + 1) [0, 1, 2] hlt (by omega) ?_
      refine ⟨rfl, ?_, ?_⟩ <;> (repeat' first | exact True.intro | exact VEq.refl _ | exact EEq.same _ | exact CEq.refl _ | exact VEq.int rfl | apply VEq.tru | apply VEq.fls | apply VEq.bool | apply VEq.int | exact VEq.nill rfl | exact VEq.zl rfl | exact VEq.nil | exact VEq.li_1 | exact VEq.li_2 | exact VEq.li_3 | exact VEq.li_4 | exact VEq.lp_1 | exact VEq.lp_2 | exact VEq.lp_3 | exact VEq.lp_4 | exact VEq.lt_1 | exact VEq.lt_2 | exact VEq.lt_3 | apply VEq.ms | apply VEq.sll | apply VEq.aggs | apply EEq.boxs | apply EEq.app1 | apply EEq.app2 | apply EEq.app3 | apply CEq.ms | apply CEq.int | apply CEq.sll | exact CEq.nill rfl | apply And.intro | exact rfl)
      · exact e1.symm
      · exact e2.symm
    · (repeat' first | (refine Owe.mk ?_ ?_; (· (first | trivial | omega | ((try simp only [R64, true_and, and_true, Int.toNat_natCast, List.length_cons, List.length_nil]); omega)))) | (refine Fork.same ?_; first | refine Fork.dec (fun h => ?_) (fun h => ?_) | refine Fork.ndec (fun h => ?_) (fun h => ?_) | refine Fork.mk (fun h => ?_) (fun h => ?_)) | refine MvQ.stay ?_ | refine Owe.mk ?_ ?_)
      have : k = l.length := by omega
      subst this
      (refine RetQ.plain (Nat.le_refl _) (by first | exact .inr rfl | exact .inl rfl) rfl (by (simp only [cloL, clo, cloC, cloCs, and_self])) ?_; (repeat' first | exact True.intro | exact VEq.refl _ | exact EEq.same _ | exact CEq.refl _ | exact VEq.int rfl | apply VEq.tru | apply VEq.fls | apply VEq.bool | apply VEq.int | exact VEq.nill rfl | exact VEq.zl rfl | exact VEq.nil | exact VEq.li_1 | exact VEq.li_2 | exact VEq.li_3 | exact VEq.li_4 | exact VEq.lp_1 | exact VEq.lp_2 | exact VEq.lp_3 | exact VEq.lp_4 | exact VEq.lt_1 | exact VEq.lt_2 | exact VEq.lt_3 | apply VEq.ms | apply VEq.sll | apply VEq.aggs | apply EEq.boxs | apply EEq.app1 | apply EEq.app2 | apply EEq.app3 | apply CEq.ms | apply CEq.int | apply CEq.sll | exact CEq.nill rfl | apply And.intro | exact rfl))
end Go.Pw

set_option linter.unusedSimpArgs false
set_option linter.unusedVariables false
namespace Go.Pw
open Go Go.Proofs
theorem sq_lt {a b : Int} (ha : 0 ≤ a) (h : a * a < b * b) (hb : 0 ≤ b) : a < b := by
  rcases Int.lt_or_le a b with h1 | h1
  · exact h1
  · have := Int.mul_le_mul h1 h1 hb ha; omega
/-- The greatest number whose square times a square is at most a number: one alone. -/
theorem root_one {a b z s : Int} (ha : 0 ≤ a) (hb : 0 ≤ b) (hz : 0 < z) (h1 : a * z * (a * z) ≤ s) (h2 : s < (a + 1) * z * ((a + 1) * z)) (h3 : b * z * (b * z) ≤ s) (h4 : s < (b + 1) * z * ((b + 1) * z)) : a = b := by
  have ha' : 0 ≤ a * z := Int.mul_nonneg ha (by omega)
  have hb' : 0 ≤ b * z := Int.mul_nonneg hb (by omega)
  have ha1 : 0 ≤ (a + 1) * z := Int.mul_nonneg (by omega) (by omega)
  have hb1 : 0 ≤ (b + 1) * z := Int.mul_nonneg (by omega) (by omega)
  have e1 : a * z < (b + 1) * z := sq_lt ha' (by omega) hb1
  have e2 : b * z < (a + 1) * z := sq_lt hb' (by omega) ha1
  have e3 : a < b + 1 := Int.lt_of_mul_lt_mul_right e1 (by omega)
  have e4 : b < a + 1 := Int.lt_of_mul_lt_mul_right e2 (by omega)
  omega
theorem root_a {s z r : Int} (hz : 0 < z) (h0 : 0 ≤ r) (h1 : r * r ≤ s) (h2 : s < (r + 1) * (r + 1)) : r / z * z * (r / z * z) ≤ s ∧ s < (r / z + 1) * z * ((r / z + 1) * z) := by
  have e := Int.mul_ediv_add_emod r z
  have e1 := Int.emod_nonneg r (show z ≠ 0 by omega)
  have e2 := Int.emod_lt_of_pos r hz
  have hq : 0 ≤ r / z := Int.ediv_nonneg h0 (by omega)
  rw [Int.mul_comm] at e
  have hm : 0 ≤ r / z * z := Int.mul_nonneg hq (by omega)
  have h3 : r / z * z ≤ r := by omega
  have h4 : r + 1 ≤ (r / z + 1) * z := by rw [Int.add_mul, Int.one_mul]; omega
  have h5 := Int.mul_le_mul h3 h3 hm h0
  have h6 := Int.mul_le_mul h4 h4 (by omega) (by omega)
  omega
theorem root_b {s z b : Int} (hz : 0 < z) (hb : 0 ≤ b) (h1 : b * b ≤ s / (z * z)) (h2 : s / (z * z) < (b + 1) * (b + 1)) : b * z * (b * z) ≤ s ∧ s < (b + 1) * z * ((b + 1) * z) := by
  have hzz : 0 < z * z := Int.mul_pos hz hz
  have e := Int.mul_ediv_add_emod s (z * z)
  have e1 := Int.emod_nonneg s (show z * z ≠ 0 by omega)
  have e2 := Int.emod_lt_of_pos s hzz
  have m1 : b * z * (b * z) = b * b * (z * z) := by rw [Int.mul_assoc, Int.mul_left_comm z, ← Int.mul_assoc]
  have m2 : (b + 1) * z * ((b + 1) * z) = (b + 1) * (b + 1) * (z * z) := by rw [Int.mul_assoc, Int.mul_left_comm z, ← Int.mul_assoc]
  rw [m1, m2]
  have h3 := Int.mul_le_mul_of_nonneg_right h1 (show 0 ≤ z * z by omega)
  have h4 := Int.mul_le_mul_of_nonneg_right (show s / (z * z) + 1 ≤ (b + 1) * (b + 1) by omega) (show 0 ≤ z * z by omega)
  rw [Int.add_mul, Int.one_mul] at h4
  rw [Int.mul_comm] at e
  omega
theorem len_eq {h z x : Int} (hh : 1 ≤ h ∧ h ≤ 1000) (hz : 0 < z ∧ z ≤ 20000) (hx : -20000 ≤ x ∧ x ≤ 20000) :
    lenF h z x = (isq (sqF h z x) / z, if isq (sqF h z x) / z * (isq (sqF h z x) / z) * z * z < sqF h z x then isq (sqF h z x) / z + 1 else isq (sqF h z x) / z) := by
  obtain ⟨_, _, b3, b4, b5, _⟩ := len_bd hh hz hx
  unfold lenF
  simp only [lnF]
  generalize sqF h z x = s at *
  obtain ⟨r1, r2, r3⟩ := isq_spec (n := s) (by omega)
  obtain ⟨q1, q2, q3⟩ := isq_spec (n := s.tdiv (z * z)) (by omega)
  generalize isq (s.tdiv (z * z)) = b at *
  generalize isq s = r at *
  rw [Int.tdiv_eq_ediv_of_nonneg (by omega)] at q2 q3
  obtain ⟨u1, u2⟩ := root_a hz.1 r1 r2 r3
  obtain ⟨v1, v2⟩ := root_b hz.1 q1 q2 q3
  have hq : 0 ≤ r / z := Int.ediv_nonneg r1 (by omega)
  have e : r / z = b := root_one hq q1 hz.1 u1 u2 v1 v2
  rw [e] at u1 ⊢
  have m1 : b * z * (b * z) = b * b * (z * z) := by rw [Int.mul_assoc, Int.mul_left_comm z, ← Int.mul_assoc]
  have m2 : b * b * z * z = b * b * (z * z) := Int.mul_assoc ..
  rw [m1] at u1
  rw [m2]
  by_cases h1 : b * b * (z * z) = s
  · rw [if_pos h1, if_neg (by omega)]
  · rw [if_neg h1, if_pos (by omega)]
theorem sqz_le {q z : Int} (hq : 0 ≤ q) (hz : 0 < z) : 0 ≤ q * q ∧ q * q ≤ q * q * z ∧ q * q * z ≤ q * q * z * z := by
  have h10 : 0 ≤ q * q := Int.mul_nonneg hq hq
  have h11 : 0 ≤ q * q * z := Int.mul_nonneg h10 (by omega)
  have h9 := Int.mul_le_mul_of_nonneg_left (show 1 ≤ z by omega) h11
  have h12 := Int.mul_le_mul_of_nonneg_left (show 1 ≤ z by omega) h10
  exact ⟨h10, by omega, by omega⟩
theorem C125 {h : Int} {t : Rg} : ((1 ≤ h ∧ h ≤ 1000) ∧ tnOk t) → PFD Try.prog 125 [vi .i64 h, .agg [int t.1, int t.2]] (.agg [int (lenF h t.2 t.1).1, int (lenF h t.2 t.1).2]) := fun ⟨hh, hx, hz⟩ => by
  obtain ⟨b1, b2, b3, b4, _, _⟩ := len_bd hh hz hx
  have e := len_eq hh hz hx
  obtain ⟨r1, r2, r3⟩ := isq_spec (n := sqF h t.2 t.1) (by omega)
  have c1 := C105 (n := sqF h t.2 t.1) (by omega)
  have hq1 : 0 ≤ isq (sqF h t.2 t.1) / t.2 := Int.ediv_nonneg r1 (by omega)
  have u1 := (root_a hz.1 r1 r2 r3).1
  have m1 : isq (sqF h t.2 t.1) / t.2 * t.2 * (isq (sqF h t.2 t.1) / t.2 * t.2) = isq (sqF h t.2 t.1) / t.2 * (isq (sqF h t.2 t.1) / t.2) * t.2 * t.2 := by
    rw [Int.mul_assoc (_ * _) t.2, Int.mul_assoc _ t.2, Int.mul_left_comm t.2, ← Int.mul_assoc]
  rw [m1] at u1
  have e2 : (isq (sqF h t.2 t.1)).tdiv t.2 = isq (sqF h t.2 t.1) / t.2 := Int.tdiv_eq_ediv_of_nonneg r1
  have h7 := isq_le (n := sqF h t.2 t.1) (by omega)
  have h8 : isq (sqF h t.2 t.1) / t.2 ≤ 1073741824 := Int.le_trans (Int.ediv_le_self _ r1) h7
  have h9 := sqz_le hq1 hz.1
  rw [e]
  simp only [sqF] at *
  generalize isq (h * h * (t.1 * t.1 + t.2 * t.2)) = r at *
  rw [← e2] at hq1 h8 u1 h9 ⊢
  clear e e2 m1
  refine PFD.of (vs := [_]) fn125 rfl (by (simp only [cloL, clo, cloC, cloCs, and_self])) ?_
  (repeat' first | (refine Owe.mk ?_ ?_; (· (first | trivial | omega | ((try simp only [R64, true_and, and_true, Int.toNat_natCast, List.length_cons, List.length_nil]); omega)))) | (refine Fork.same ?_; first | refine Fork.dec (fun h => ?_) (fun h => ?_) | refine Fork.ndec (fun h => ?_) (fun h => ?_) | refine Fork.mk (fun h => ?_) (fun h => ?_)) | (refine OpsL.same ?_; first | refine Ops.pc rfl (Fits.eq rfl) c1 rfl ?_ | (refine Ops.pcp rfl (Fits.eq rfl) c1 rfl ?_ ?_; (· (first | trivial | omega | ((try simp only [R64, true_and, and_true, Int.toNat_natCast, List.length_cons, List.length_nil]); omega)))) ) | (refine OpsDL.same ?_; first | refine OpsD.pc rfl (Fits.eq rfl) c1 rfl ?_ | (refine OpsD.pcp rfl (Fits.eq rfl) c1 rfl ?_ ?_; (· (first | trivial | omega | ((try simp only [R64, true_and, and_true, Int.toNat_natCast, List.length_cons, List.length_nil]); omega)))) ) | refine MvQ.stay ?_ | refine Owe.mk ?_ ?_)
  · rw [if_pos (by assumption)]; (refine RetQ.plain (Nat.le_refl _) (by first | exact .inr rfl | exact .inl rfl) rfl (by (simp only [cloL, clo, cloC, cloCs, and_self])) ?_; (repeat' first | exact True.intro | exact VEq.refl _ | exact EEq.same _ | exact CEq.refl _ | exact VEq.int rfl | apply VEq.tru | apply VEq.fls | apply VEq.bool | apply VEq.int | exact VEq.nill rfl | exact VEq.zl rfl | exact VEq.nil | exact VEq.li_1 | exact VEq.li_2 | exact VEq.li_3 | exact VEq.li_4 | exact VEq.lp_1 | exact VEq.lp_2 | exact VEq.lp_3 | exact VEq.lp_4 | exact VEq.lt_1 | exact VEq.lt_2 | exact VEq.lt_3 | apply VEq.ms | apply VEq.sll | apply VEq.aggs | apply EEq.boxs | apply EEq.app1 | apply EEq.app2 | apply EEq.app3 | apply CEq.ms | apply CEq.int | apply CEq.sll | exact CEq.nill rfl | apply And.intro | exact rfl))
  · rw [if_neg (by assumption)]; (refine RetQ.plain (Nat.le_refl _) (by first | exact .inr rfl | exact .inl rfl) rfl (by (simp only [cloL, clo, cloC, cloCs, and_self])) ?_; (repeat' first | exact True.intro | exact VEq.refl _ | exact EEq.same _ | exact CEq.refl _ | exact VEq.int rfl | apply VEq.tru | apply VEq.fls | apply VEq.bool | apply VEq.int | exact VEq.nill rfl | exact VEq.zl rfl | exact VEq.nil | exact VEq.li_1 | exact VEq.li_2 | exact VEq.li_3 | exact VEq.li_4 | exact VEq.lp_1 | exact VEq.lp_2 | exact VEq.lp_3 | exact VEq.lp_4 | exact VEq.lt_1 | exact VEq.lt_2 | exact VEq.lt_3 | apply VEq.ms | apply VEq.sll | apply VEq.aggs | apply EEq.boxs | apply EEq.app1 | apply EEq.app2 | apply EEq.app3 | apply CEq.ms | apply CEq.int | apply CEq.sll | exact CEq.nill rfl | apply And.intro | exact rfl))
/-- What is asked of the document's length of a link. -/
structure LngOk (F : Int → Int → Int → Rg) : Prop extends LenOk F where
  d : ∀ {h : Int} {t : Rg}, ((1 ≤ h ∧ h ≤ 1000) ∧ tnOk t) → PFD Try.prog 125 [vi .i64 h, .agg [int t.1, int t.2]] (.agg [int (F h t.2 t.1).1, int (F h t.2 t.1).2])
theorem lenF_ng : LngOk lenF := ⟨lenF_ok, C125⟩
end Go.Pw

namespace Go.Pw
theorem Fork.yes {b : Bool} {p q : Prop} (hb : b = true) (hp : p) : Fork b p q := ⟨fun _ => hp, fun h => absurd (hb.symm.trans h) (by decide)⟩
theorem Fork.no {b : Bool} {p q : Prop} (hb : b = false) (hq : q) : Fork b p q := ⟨fun h => absurd (hb.symm.trans h) (by decide), fun _ => hq⟩
theorem nd_t {x : Prop} [Decidable x] (h : ¬ x) : (!decide x) = true := by rw [decide_eq_false h]; rfl
theorem nd_f {x : Prop} [Decidable x] (h : x) : (!decide x) = false := by rw [decide_eq_true h]; rfl
end Go.Pw

set_option linter.unusedVariables false
set_option maxHeartbeats 2000000
set_option maxRecDepth 100000
namespace Go.Pw
open Go Go.Proofs
/-- moonpool/moonpoollaw01.CableBoxes -/
def lc10 : LCode :=
  (.seq (.region [⟨some 2, .box (.tmp 0), none⟩, ⟨some 4, .mv (.const (.bool false)), none⟩]) (.seq (.seq (.region [⟨some 14, .call (.func 15) [], none⟩, ⟨some 15, .un .not (.tmp
    14), none⟩]) (.cond (.tmp 15) (.seq (.region [⟨some 4, .mv (.const (.bool false)), none⟩]) .ret) .skip)) (.seq (.seq (.region [⟨some 16, .load true 3 (.tmp 2), none⟩, ⟨some 17,
    .mv (.tmp 1), none⟩, ⟨some 18, .len (.tmp 17), none⟩, ⟨some 19, .call (.func 28) [(.tmp 16), (.tmp 18)], none⟩, ⟨some 20, .un .not (.tmp 19), none⟩]) (.cond (.tmp 20) (.seq
    (.region [⟨some 4, .mv (.const (.bool true)), none⟩]) .ret) .skip)) (.seq (.region [⟨some 22, .load true 3 (.tmp 2), none⟩, ⟨some 23, .call (.func 30) [(.tmp 22)], none⟩, ⟨some
    24, .mv (.tmp 1), none⟩, ⟨some 25, .call (.func 48) [(.tmp 24)], none⟩, ⟨some 26, .call (.func 68) [(.tmp 23), (.tmp 25)], none⟩, ⟨some 21, .mv (.tmp 26), none⟩, ⟨some 27, .ext
    (.tmp 21) 0, none⟩, ⟨some 28, .ext (.tmp 21) 1, none⟩, ⟨some 5, .mv (.tmp 27), none⟩, ⟨some 6, .mv (.tmp 28), none⟩]) (.seq (.region [⟨some 30, .load true 3 (.tmp 2), none⟩,
    ⟨some 31, .call (.func 30) [(.tmp 30)], none⟩, ⟨some 32, .mv (.tmp 1), none⟩, ⟨some 33, .call (.func 48) [(.tmp 32)], none⟩, ⟨some 34, .call (.func 69) [(.tmp 31), (.tmp 33)],
    none⟩, ⟨some 29, .mv (.tmp 34), none⟩, ⟨some 35, .ext (.tmp 29) 0, none⟩, ⟨some 36, .ext (.tmp 29) 1, none⟩, ⟨some 7, .mv (.tmp 35), none⟩, ⟨some 8, .mv (.tmp 36), none⟩]) (.seq
    (.region [⟨some 38, .load true 3 (.tmp 2), none⟩, ⟨some 39, .call (.func 30) [(.tmp 38)], none⟩, ⟨some 40, .mv (.tmp 1), none⟩, ⟨some 41, .call (.func 48) [(.tmp 40)], none⟩,
    ⟨some 42, .call (.func 70) [(.tmp 39), (.tmp 41)], none⟩, ⟨some 37, .mv (.tmp 42), none⟩, ⟨some 43, .ext (.tmp 37) 0, none⟩, ⟨some 44, .ext (.tmp 37) 1, none⟩, ⟨some 9, .alloc
    [(.int .i64 0), (.int .i64 0)], none⟩, ⟨none, .store 2 (.tmp 9) (.tmp 43), none⟩, ⟨some 10, .mv (.tmp 44), none⟩]) (.seq (.region [⟨some 46, .load true 3 (.tmp 2), none⟩, ⟨some
    47, .call (.func 30) [(.tmp 46)], none⟩, ⟨some 48, .mv (.tmp 1), none⟩, ⟨some 49, .call (.func 48) [(.tmp 48)], none⟩, ⟨some 50, .call (.func 71) [(.tmp 47), (.tmp 49)], none⟩,
    ⟨some 45, .mv (.tmp 50), none⟩, ⟨some 51, .ext (.tmp 45) 0, none⟩, ⟨some 52, .ext (.tmp 45) 1, none⟩, ⟨some 11, .mv (.tmp 51), none⟩, ⟨some 12, .mv (.tmp 52), none⟩]) (.seq
    (.region [⟨some 53, .load true 3 (.tmp 2), none⟩, ⟨some 54, .call (.func 35) [(.tmp 53)], none⟩, ⟨some 13, .mv (.tmp 54), none⟩]) (.seq (.seq (.region [⟨some 55, .mv (.tmp 13),
    none⟩, ⟨some 56, .bin .eql (.tmp 55) (.const (.int .i64 0)), none⟩]) (.cond (.tmp 56) (.region [⟨some 57, .load true 3 (.tmp 2), none⟩, ⟨some 58, .mv (.tmp 1), none⟩, ⟨some 59,
    .call (.func 72) [(.tmp 57), (.tmp 58)], none⟩, ⟨some 13, .mv (.tmp 59), none⟩]) .skip)) (.seq (.seq (.region [⟨some 60, .mv (.tmp 13), none⟩, ⟨some 61, .bin .neq (.tmp 60)
    (.const (.int .i64 0)), none⟩]) (.cond (.tmp 61) (.seq (.region [⟨some 62, .mv (.tmp 6), none⟩, ⟨some 63, .mv (.tmp 13), none⟩, ⟨some 64, .bin .eql (.tmp 62) (.tmp 63), none⟩,
    ⟨some 65, .mv (.tmp 64), none⟩, ⟨some 66, .mv (.tmp 8), some (65, true)⟩, ⟨some 67, .mv (.tmp 13), some (65, true)⟩, ⟨some 68, .bin .eql (.tmp 66) (.tmp 67), some (65, true)⟩,
    ⟨some 69, .pick (.tmp 65) (.tmp 68) (.const (.bool false)), none⟩, ⟨some 70, .mv (.tmp 69), none⟩, ⟨some 71, .mv (.tmp 10), some (70, true)⟩, ⟨some 72, .mv (.tmp 13), some (70,
    true)⟩, ⟨some 73, .bin .eql (.tmp 71) (.tmp 72), some (70, true)⟩, ⟨some 74, .pick (.tmp 70) (.tmp 73) (.const (.bool false)), none⟩, ⟨some 75, .mv (.tmp 74), none⟩, ⟨some 76,
    .mv (.tmp 12), some (75, true)⟩, ⟨some 77, .mv (.tmp 13), some (75, true)⟩, ⟨some 78, .bin .eql (.tmp 76) (.tmp 77), some (75, true)⟩, ⟨some 79, .pick (.tmp 75) (.tmp 78)
    (.const (.bool false)), none⟩, ⟨some 80, .mv (.tmp 79), none⟩, ⟨some 81, .mv (.tmp 5), some (80, true)⟩, ⟨some 82, .len (.tmp 81), some (80, true)⟩, ⟨some 83, .mv (.tmp 7), some
    (80, true)⟩, ⟨some 84, .len (.tmp 83), some (80, true)⟩, ⟨some 85, .bin .add (.tmp 82) (.tmp 84), some (80, true)⟩, ⟨some 86, .bin .eql (.tmp 85) (.const (.int .i64 0)), some
    (80, true)⟩, ⟨some 87, .pick (.tmp 80) (.tmp 86) (.const (.bool false)), none⟩, ⟨some 88, .mv (.tmp 87), none⟩, ⟨some 89, .load true 2 (.tmp 9), some (88, true)⟩, ⟨some 90,
    .build [(.int .i64 0), (.int .i64 0)] [], some (88, true)⟩, ⟨some 91, .eqA false 2 (.tmp 89) (.tmp 90), some (88, true)⟩, ⟨some 92, .pick (.tmp 88) (.tmp 91) (.const (.bool
    false)), none⟩, ⟨some 93, .mv (.tmp 92), none⟩, ⟨some 94, .mv (.tmp 11), some (93, true)⟩, ⟨some 95, .bin .eql (.tmp 94) (.const (.int .i64 0)), some (93, true)⟩, ⟨some 96,
    .pick (.tmp 93) (.tmp 95) (.const (.bool false)), none⟩, ⟨some 4, .mv (.tmp 96), none⟩]) .ret) .skip)) (.seq (.seq (.region [⟨some 97, .mv (.tmp 6), none⟩, ⟨some 98, .bin .neq
    (.tmp 97) (.const (.int .i64 0)), none⟩, ⟨some 99, .mv (.tmp 98), none⟩, ⟨some 100, .mv (.tmp 5), some (99, false)⟩, ⟨some 101, .load true 3 (.tmp 2), some (99, false)⟩, ⟨some
    102, .mv (.tmp 1), some (99, false)⟩, ⟨some 103, .call (.func 74) [(.tmp 101), (.tmp 102)], some (99, false)⟩, ⟨some 104, .call (.func 73) [(.tmp 100), (.tmp 103)], some (99,
    false)⟩, ⟨some 105, .un .not (.tmp 104), some (99, false)⟩, ⟨some 106, .pick (.tmp 99) (.const (.bool true)) (.tmp 105), none⟩, ⟨some 107, .mv (.tmp 106), none⟩, ⟨some 108, .mv
    (.tmp 8), some (107, false)⟩, ⟨some 109, .bin .neq (.tmp 108) (.const (.int .i64 0)), some (107, false)⟩, ⟨some 110, .pick (.tmp 107) (.const (.bool true)) (.tmp 109), none⟩,
    ⟨some 111, .mv (.tmp 110), none⟩, ⟨some 112, .mv (.tmp 7), some (111, false)⟩, ⟨some 113, .load true 3 (.tmp 2), some (111, false)⟩, ⟨some 114, .mv (.tmp 1), some (111, false)⟩,
    ⟨some 115, .call (.func 75) [(.tmp 113), (.tmp 114)], some (111, false)⟩, ⟨some 116, .call (.func 73) [(.tmp 112), (.tmp 115)], some (111, false)⟩, ⟨some 117, .un .not (.tmp
    116), some (111, false)⟩, ⟨some 118, .pick (.tmp 111) (.const (.bool true)) (.tmp 117), none⟩]) (.cond (.tmp 118) (.seq (.region [⟨some 4, .mv (.const (.bool false)), none⟩])
    .ret) .skip)) (.seq (.seq (.region [⟨some 119, .load true 3 (.tmp 2), none⟩, ⟨some 120, .call (.func 60) [(.tmp 119)], none⟩, ⟨some 13, .mv (.tmp 120), none⟩]) (.seq (.region
    [⟨some 121, .mv (.tmp 13), none⟩, ⟨some 122, .bin .neq (.tmp 121) (.const (.int .i64 0)), none⟩]) (.cond (.tmp 122) (.seq (.region [⟨some 123, .mv (.tmp 10), none⟩, ⟨some 124,
    .mv (.tmp 13), none⟩, ⟨some 125, .bin .eql (.tmp 123) (.tmp 124), none⟩, ⟨some 126, .mv (.tmp 125), none⟩, ⟨some 127, .mv (.tmp 12), some (126, true)⟩, ⟨some 128, .mv (.tmp 13),
    some (126, true)⟩, ⟨some 129, .bin .eql (.tmp 127) (.tmp 128), some (126, true)⟩, ⟨some 130, .pick (.tmp 126) (.tmp 129) (.const (.bool false)), none⟩, ⟨some 131, .mv (.tmp
    130), none⟩, ⟨some 132, .load true 2 (.tmp 9), some (131, true)⟩, ⟨some 133, .build [(.int .i64 0), (.int .i64 0)] [], some (131, true)⟩, ⟨some 134, .eqA false 2 (.tmp 132)
    (.tmp 133), some (131, true)⟩, ⟨some 135, .pick (.tmp 131) (.tmp 134) (.const (.bool false)), none⟩, ⟨some 136, .mv (.tmp 135), none⟩, ⟨some 137, .mv (.tmp 11), some (136,
    true)⟩, ⟨some 138, .bin .eql (.tmp 137) (.const (.int .i64 0)), some (136, true)⟩, ⟨some 139, .pick (.tmp 136) (.tmp 138) (.const (.bool false)), none⟩, ⟨some 4, .mv (.tmp 139),
    none⟩]) .ret) .skip))) (.seq (.regionD [⟨some 140, .mv (.tmp 10), none⟩, ⟨some 141, .bin .eql (.tmp 140) (.const (.int .i64 0)), none⟩, ⟨some 142, .mv (.tmp 141), none⟩, ⟨some
    143, .load true 2 (.tmp 9), some (142, true)⟩, ⟨some 144, .load true 3 (.tmp 2), some (142, true)⟩, ⟨some 145, .mv (.tmp 1), some (142, true)⟩, ⟨some 146, .call (.func 76)
    [(.tmp 144), (.tmp 145)], some (142, true)⟩, ⟨some 147, .eqA false 2 (.tmp 143) (.tmp 146), some (142, true)⟩, ⟨some 148, .pick (.tmp 142) (.tmp 147) (.const (.bool false)),
    none⟩, ⟨some 149, .mv (.tmp 148), none⟩, ⟨some 150, .mv (.tmp 12), some (149, true)⟩, ⟨some 151, .bin .eql (.tmp 150) (.const (.int .i64 0)), some (149, true)⟩, ⟨some 152, .pick
    (.tmp 149) (.tmp 151) (.const (.bool false)), none⟩, ⟨some 153, .mv (.tmp 152), none⟩, ⟨some 154, .mv (.tmp 11), some (153, true)⟩, ⟨some 155, .load true 3 (.tmp 2), some (153,
    true)⟩, ⟨some 156, .mv (.tmp 1), some (153, true)⟩, ⟨some 157, .call (.func 77) [(.tmp 155), (.tmp 156)], some (153, true)⟩, ⟨some 158, .bin .eql (.tmp 154) (.tmp 157), some
    (153, true)⟩, ⟨some 159, .pick (.tmp 153) (.tmp 158) (.const (.bool false)), none⟩, ⟨some 4, .mv (.tmp 159), none⟩] [0, 1, 3, 7, 7, 7, 55, 127, 255, 511, 1023, 2047, 4095, 8191,
    16383, 16383, 16383, 114687, 262143, 524287, 1048575] [0, 1, 2, 3, 4, 5, 6, 7, 8, 9, 10, 11, 12, 13, 14, 15, 16, 17, 18, 19, 20]) .ret)))))))))))))
theorem low10 : lowF Try.prog [] Try.f10 = some (160, lc10, [.tmp 4]) := by kernel_rfl
theorem fn10 : FnOk Try.prog 10 160 lc10 [.tmp 4] := ⟨Try.call10, [], _, Try.func10, low10⟩
end Go.Pw

set_option linter.unusedSimpArgs false
namespace Go.Pw
open Go Go.Proofs
theorem opL_pz {x z : Int} {l : List Lk} {b : List Rg} : ∀ k : Nat, (Ln.mk x z l b).pz k = (stl x z l).pz k
  | 0 => rfl
  | k + 1 => by
    show (Ln.mk x z l b).pz k + _ = (stl x z l).pz k + _
    rw [opL_pz k]; rfl
theorem slk_eq {x z : Int} {l : List Lk} {b : List Rg} : slkE (Ln.mk x z l b) = slkN x z l := by
  have hm : ∀ k, k < l.length → (slP (stl x z l) k = true → ¬ 0 < (Ln.mk x z l b).pz (k + 1)) := fun k hk h => by
    rw [opL_pz]; simp only [slP, decide_eq_true_eq] at h; omega
  simp only [slkE, slkN]
  by_cases h : ∀ k, k < l.length → 0 < (Ln.mk x z l b).pz (k + 1)
  · rw [if_pos h, if_pos]
    simp only [fltL, List.length_eq_zero_iff, List.map_eq_nil_iff, List.filter_eq_nil_iff, List.mem_range]
    intro k hk hs
    exact hm k hk hs (h k hk)
  · rw [if_neg h, if_neg]
    intro h2
    apply h
    simp only [fltL, List.length_eq_zero_iff, List.map_eq_nil_iff, List.filter_eq_nil_iff, List.mem_range] at h2
    intro k hk
    have := h2 k hk
    rw [opL_pz]
    simp only [slP, decide_eq_true_eq] at this
    omega
end Go.Pw

set_option linter.unusedSimpArgs false
set_option linter.unusedVariables false
namespace Go.Pw
open Go Go.Proofs
abbrev plF (L : Ln) (i : Nat) : Rg := (L.pl (i + 1), L.ph (i + 1))
theorem C68 {x z : Int} {l : List Lk} {b : List Rg} : (l.length ≤ 1000000 ∧ b.length ≤ 1000000) → PFD Try.prog 68 [.agg [int x, int z, trs l], .c (prs b)]
    (.tup [.c (prs (orE (lbE x z l b).2 (accL (plF ⟨x, z, l, b⟩) l.length))), vi .i64 (lbE x z l b).2]) := fun hl => by
  have c1 := C127 (x := x) (z := z) hl
  by_cases h0 : (lbE x z l b).2 = 0
  · have hL : (Ln.mk x z l b).Ok := lbE_ok h0
    rw [orE, if_pos h0]
    obtain ⟨L, hLe⟩ : ∃ L, L = Ln.mk x z l b := ⟨_, rfl⟩
    rw [← hLe] at hL c1 ⊢
    rw [show l.length = L.l.length by rw [hLe]]
    refine PFD.of (vs := [_, _]) fn68 rfl (by (simp only [cloL, clo, cloC, cloCs, and_self])) ?_
    (repeat' first | (refine Owe.mk ?_ ?_; (· (first | trivial | omega | ((try simp only [R64, true_and, and_true, Int.toNat_natCast, List.length_cons, List.length_nil]); omega)))) | (refine Fork.same ?_; first | refine Fork.dec (fun h => ?_) (fun h => ?_) | refine Fork.ndec (fun h => ?_) (fun h => ?_) | refine Fork.mk (fun h => ?_) (fun h => ?_)) | (refine OpsL.same ?_; first | refine Ops.pc rfl (Fits.eq rfl) c1 rfl ?_ | (refine Ops.pcp rfl (Fits.eq rfl) c1 rfl ?_ ?_; (· (first | trivial | omega | ((try simp only [R64, true_and, and_true, Int.toNat_natCast, List.length_cons, List.length_nil]); omega)))) | refine Ops.pc rfl (Fits.veq (by (repeat' first | exact True.intro | exact VEq.refl _ | exact EEq.same _ | exact CEq.refl _ | exact VEq.int rfl | apply VEq.tru | apply VEq.fls | apply VEq.bool | apply VEq.int | exact VEq.nill rfl | exact VEq.zl rfl | exact VEq.nil | exact VEq.li_1 | exact VEq.li_2 | exact VEq.li_3 | exact VEq.li_4 | exact VEq.lp_1 | exact VEq.lp_2 | exact VEq.lp_3 | exact VEq.lp_4 | exact VEq.lt_1 | exact VEq.lt_2 | exact VEq.lt_3 | apply VEq.ms | apply VEq.sll | apply VEq.aggs | apply EEq.boxs | apply EEq.app1 | apply EEq.app2 | apply EEq.app3 | apply CEq.ms | apply CEq.int | apply CEq.sll | exact CEq.nill rfl | apply And.intro | exact rfl))) c1 rfl ?_ | (refine Ops.pcp rfl (Fits.veq (by (repeat' first | exact True.intro | exact VEq.refl _ | exact EEq.same _ | exact CEq.refl _ | exact VEq.int rfl | apply VEq.tru | apply VEq.fls | apply VEq.bool | apply VEq.int | exact VEq.nill rfl | exact VEq.zl rfl | exact VEq.nil | exact VEq.li_1 | exact VEq.li_2 | exact VEq.li_3 | exact VEq.li_4 | exact VEq.lp_1 | exact VEq.lp_2 | exact VEq.lp_3 | exact VEq.lp_4 | exact VEq.lt_1 | exact VEq.lt_2 | exact VEq.lt_3 | apply VEq.ms | apply VEq.sll | apply VEq.aggs | apply EEq.boxs | apply EEq.app1 | apply EEq.app2 | apply EEq.app3 | apply CEq.ms | apply CEq.int | apply CEq.sll | exact CEq.nill rfl | apply And.intro | exact rfl))) c1 rfl ?_ ?_; (· (first | trivial | omega | ((try simp only [R64, true_and, and_true, Int.toNat_natCast, List.length_cons, List.length_nil]); omega)))) ) | (refine OpsDL.same ?_; first | refine OpsD.pc rfl (Fits.eq rfl) c1 rfl ?_ | (refine OpsD.pcp rfl (Fits.eq rfl) c1 rfl ?_ ?_; (· (first | trivial | omega | ((try simp only [R64, true_and, and_true, Int.toNat_natCast, List.length_cons, List.length_nil]); omega)))) | refine OpsD.pc rfl (Fits.veq (by (repeat' first | exact True.intro | exact VEq.refl _ | exact EEq.same _ | exact CEq.refl _ | exact VEq.int rfl | apply VEq.tru | apply VEq.fls | apply VEq.bool | apply VEq.int | exact VEq.nill rfl | exact VEq.zl rfl | exact VEq.nil | exact VEq.li_1 | exact VEq.li_2 | exact VEq.li_3 | exact VEq.li_4 | exact VEq.lp_1 | exact VEq.lp_2 | exact VEq.lp_3 | exact VEq.lp_4 | exact VEq.lt_1 | exact VEq.lt_2 | exact VEq.lt_3 | apply VEq.ms | apply VEq.sll | apply VEq.aggs | apply EEq.boxs | apply EEq.app1 | apply EEq.app2 | apply EEq.app3 | apply CEq.ms | apply CEq.int | apply CEq.sll | exact CEq.nill rfl | apply And.intro | exact rfl))) c1 rfl ?_ | (refine OpsD.pcp rfl (Fits.veq (by (repeat' first | exact True.intro | exact VEq.refl _ | exact EEq.same _ | exact CEq.refl _ | exact VEq.int rfl | apply VEq.tru | apply VEq.fls | apply VEq.bool | apply VEq.int | exact VEq.nill rfl | exact VEq.zl rfl | exact VEq.nil | exact VEq.li_1 | exact VEq.li_2 | exact VEq.li_3 | exact VEq.li_4 | exact VEq.lp_1 | exact VEq.lp_2 | exact VEq.lp_3 | exact VEq.lp_4 | exact VEq.lt_1 | exact VEq.lt_2 | exact VEq.lt_3 | apply VEq.ms | apply VEq.sll | apply VEq.aggs | apply EEq.boxs | apply EEq.app1 | apply EEq.app2 | apply EEq.app3 | apply CEq.ms | apply CEq.int | apply CEq.sll | exact CEq.nill rfl | apply And.intro | exact rfl))) c1 rfl ?_ ?_; (· (first | trivial | omega | ((try simp only [R64, true_and, and_true, Int.toNat_natCast, List.length_cons, List.length_nil]); omega)))) ) | refine MvQ.stay ?_ | refine Owe.mk ?_ ?_)
    · exact absurd h0 h
    refine Ops.cs rfl rfl (CallS.of fn113 rfl ?_); refine Sat.keep [8, 21] ?_; refine Sat.rf rfl rfl (CallS.of fn141 rfl ?_); (repeat' first | (refine Owe.mk ?_ ?_; (· (first | trivial | omega | ((try simp only [R64, true_and, and_true, Int.toNat_natCast, List.length_cons, List.length_nil]); omega)))) | (refine Fork.same ?_; first | refine Fork.dec (fun h => ?_) (fun h => ?_) | refine Fork.ndec (fun h => ?_) (fun h => ?_) | refine Fork.mk (fun h => ?_) (fun h => ?_)) | refine MvQ.stay ?_ | refine Owe.mk ?_ ?_)
    refine Sat.nilB 2 0 85 2 (fun i => r2 (([] : List Rg).getD i (0, 0))) rfl rfl ?_
    refine Sat.lp (fun k : Nat => ⟨[(24, vi .i64 k), (23, vi .i64 L.l.length), (22, .c (trs L.l)), (3, .c (.bp 5 0)), (1, .c (.bp 3 0)), (0, .c (.yd 4))], [(5, .box [int (L.pl k), int (L.ph k), int (L.pz k), int (L.hh k)]), (4, .lp [(8, .c (.bp 2 0)), (21, .c (.fn 141 [3]))] .ready none (RR Try.prog 30 [22, 23] ra68 rb68)), (3, .box L.v), (2, .box [.ms 6 (accL (plF L) k).length]), (6, rowv 85 2 r2 (0, 0) (accL (plF L) k))], 7⟩)
      (fun k => k ≤ L.l.length) (fun k => L.l.length - k) 0 [5, 6] (Nat.zero_le _) ?_ ?_
    · refine ⟨rfl, ?_, ?_⟩ <;> (repeat' first | exact True.intro | exact VEq.refl _ | exact EEq.same _ | exact CEq.refl _ | exact VEq.int rfl | apply VEq.tru | apply VEq.fls | apply VEq.bool | apply VEq.int | exact VEq.nill rfl | exact VEq.zl rfl | exact VEq.nil | exact VEq.li_1 | exact VEq.li_2 | exact VEq.li_3 | exact VEq.li_4 | exact VEq.lp_1 | exact VEq.lp_2 | exact VEq.lp_3 | exact VEq.lp_4 | exact VEq.lt_1 | exact VEq.lt_2 | exact VEq.lt_3 | apply VEq.ms | apply VEq.sll | apply VEq.aggs | apply EEq.boxs | apply EEq.app1 | apply EEq.app2 | apply EEq.app3 | apply CEq.ms | apply CEq.int | apply CEq.sll | exact CEq.nill rfl | apply And.intro | exact rfl)
    · intro k hk
      refine Fork.dec (fun hlt => ?_) (fun hlt => ?_)
      · have hlt : k < L.l.length := by omega
        have hrd := hL.round hlt
        have hn := accL_len (plF L) k
        have hs := accL_succ (plF L) k
        (repeat' first | (refine Owe.mk ?_ ?_; (· (first | trivial | omega | ((try simp only [R64, true_and, and_true, Int.toNat_natCast, List.length_cons, List.length_nil]); omega)))) | (refine Fork.same ?_; first | refine Fork.dec (fun h => ?_) (fun h => ?_) | refine Fork.ndec (fun h => ?_) (fun h => ?_) | refine Fork.mk (fun h => ?_) (fun h => ?_)) | refine MvQ.stay ?_ | refine Owe.mk ?_ ?_)
        refine Ops.yd rfl rfl rfl rfl rfl ?_
        (repeat' first | (refine Owe.mk ?_ ?_; (· (first | trivial | omega | ((try simp only [R64, true_and, and_true, Int.toNat_natCast, List.length_cons, List.length_nil]); omega)))) | (refine Fork.same ?_; first | refine Fork.dec (fun h => ?_) (fun h => ?_) | refine Fork.ndec (fun h => ?_) (fun h => ?_) | refine Fork.mk (fun h => ?_) (fun h => ?_)) | refine MvQ.stay ?_ | refine Owe.mk ?_ ?_)
        refine And.intro rfl (Exists.intro _ (And.intro rfl ?_))
        (repeat' first | (refine Owe.mk ?_ ?_; (· (first | trivial | omega | ((try simp only [R64, true_and, and_true, Int.toNat_natCast, List.length_cons, List.length_nil]); omega)))) | (refine Fork.same ?_; first | refine Fork.dec (fun h => ?_) (fun h => ?_) | refine Fork.ndec (fun h => ?_) (fun h => ?_) | refine Fork.mk (fun h => ?_) (fun h => ?_)) | refine MvQ.stay ?_ | refine Owe.mk ?_ ?_)
        refine Exists.intro _ (Exists.intro _ (Exists.intro _ (And.intro rfl ?_)))
        (repeat' first | (refine Owe.mk ?_ ?_; (· (first | trivial | omega | ((try simp only [R64, true_and, and_true, Int.toNat_natCast, List.length_cons, List.length_nil]); omega)))) | (refine Fork.same ?_; first | refine Fork.dec (fun h => ?_) (fun h => ?_) | refine Fork.ndec (fun h => ?_) (fun h => ?_) | refine Fork.mk (fun h => ?_) (fun h => ?_)) | refine MvQ.stay ?_ | refine Owe.mk ?_ ?_)
        refine again (k + 1) [5, 52] hlt (by omega) ?_
        refine ⟨rfl, ?_, ?_⟩ <;> (repeat' first | exact True.intro | exact VEq.refl _ | exact EEq.same _ | exact CEq.refl _ | exact VEq.int rfl | apply VEq.tru | apply VEq.fls | apply VEq.bool | apply VEq.int | exact VEq.nill rfl | exact VEq.zl rfl | exact VEq.nil | exact VEq.li_1 | exact VEq.li_2 | exact VEq.li_3 | exact VEq.li_4 | exact VEq.lp_1 | exact VEq.lp_2 | exact VEq.lp_3 | exact VEq.lp_4 | exact VEq.lt_1 | exact VEq.lt_2 | exact VEq.lt_3 | apply VEq.ms | apply VEq.sll | apply VEq.aggs | apply EEq.boxs | apply EEq.app1 | apply EEq.app2 | apply EEq.app3 | apply CEq.ms | apply CEq.int | apply CEq.sll | exact CEq.nill rfl | apply And.intro | exact rfl)
        · rw [hs]; simp
        · exact hs
      · (repeat' first | (refine Owe.mk ?_ ?_; (· (first | trivial | omega | ((try simp only [R64, true_and, and_true, Int.toNat_natCast, List.length_cons, List.length_nil]); omega)))) | (refine Fork.same ?_; first | refine Fork.dec (fun h => ?_) (fun h => ?_) | refine Fork.ndec (fun h => ?_) (fun h => ?_) | refine Fork.mk (fun h => ?_) (fun h => ?_)) | refine MvQ.stay ?_ | refine Owe.mk ?_ ?_)
        have : k = L.l.length := by omega
        subst this
        refine RetQ.of (by first | exact .inr rfl | exact .inl rfl) rfl rfl ((Mv.freeze 0 _ rfl rfl (Nat.le_refl _)).trans (Mv.plain (by rfl) ?_)); (repeat' first | exact True.intro | exact VEq.refl _ | exact EEq.same _ | exact CEq.refl _ | exact VEq.int rfl | apply VEq.tru | apply VEq.fls | apply VEq.bool | apply VEq.int | exact VEq.nill rfl | exact VEq.zl rfl | exact VEq.nil | exact VEq.li_1 | exact VEq.li_2 | exact VEq.li_3 | exact VEq.li_4 | exact VEq.lp_1 | exact VEq.lp_2 | exact VEq.lp_3 | exact VEq.lp_4 | exact VEq.lt_1 | exact VEq.lt_2 | exact VEq.lt_3 | apply VEq.ms | apply VEq.sll | apply VEq.aggs | apply EEq.boxs | apply EEq.app1 | apply EEq.app2 | apply EEq.app3 | apply CEq.ms | apply CEq.int | apply CEq.sll | exact CEq.nill rfl | apply And.intro | exact rfl)
        exact h0.symm
  · rw [orE, if_neg h0]
    refine PFD.of (vs := [_, _]) fn68 rfl (by (simp only [cloL, clo, cloC, cloCs, and_self])) ?_
    (repeat' first | (refine Owe.mk ?_ ?_; (· (first | trivial | omega | ((try simp only [R64, true_and, and_true, Int.toNat_natCast, List.length_cons, List.length_nil]); omega)))) | (refine Fork.same ?_; first | refine Fork.dec (fun h => ?_) (fun h => ?_) | refine Fork.ndec (fun h => ?_) (fun h => ?_) | refine Fork.mk (fun h => ?_) (fun h => ?_)) | (refine OpsL.same ?_; first | refine Ops.pc rfl (Fits.eq rfl) c1 rfl ?_ | (refine Ops.pcp rfl (Fits.eq rfl) c1 rfl ?_ ?_; (· (first | trivial | omega | ((try simp only [R64, true_and, and_true, Int.toNat_natCast, List.length_cons, List.length_nil]); omega)))) | refine Ops.pc rfl (Fits.veq (by (repeat' first | exact True.intro | exact VEq.refl _ | exact EEq.same _ | exact CEq.refl _ | exact VEq.int rfl | apply VEq.tru | apply VEq.fls | apply VEq.bool | apply VEq.int | exact VEq.nill rfl | exact VEq.zl rfl | exact VEq.nil | exact VEq.li_1 | exact VEq.li_2 | exact VEq.li_3 | exact VEq.li_4 | exact VEq.lp_1 | exact VEq.lp_2 | exact VEq.lp_3 | exact VEq.lp_4 | exact VEq.lt_1 | exact VEq.lt_2 | exact VEq.lt_3 | apply VEq.ms | apply VEq.sll | apply VEq.aggs | apply EEq.boxs | apply EEq.app1 | apply EEq.app2 | apply EEq.app3 | apply CEq.ms | apply CEq.int | apply CEq.sll | exact CEq.nill rfl | apply And.intro | exact rfl))) c1 rfl ?_ | (refine Ops.pcp rfl (Fits.veq (by (repeat' first | exact True.intro | exact VEq.refl _ | exact EEq.same _ | exact CEq.refl _ | exact VEq.int rfl | apply VEq.tru | apply VEq.fls | apply VEq.bool | apply VEq.int | exact VEq.nill rfl | exact VEq.zl rfl | exact VEq.nil | exact VEq.li_1 | exact VEq.li_2 | exact VEq.li_3 | exact VEq.li_4 | exact VEq.lp_1 | exact VEq.lp_2 | exact VEq.lp_3 | exact VEq.lp_4 | exact VEq.lt_1 | exact VEq.lt_2 | exact VEq.lt_3 | apply VEq.ms | apply VEq.sll | apply VEq.aggs | apply EEq.boxs | apply EEq.app1 | apply EEq.app2 | apply EEq.app3 | apply CEq.ms | apply CEq.int | apply CEq.sll | exact CEq.nill rfl | apply And.intro | exact rfl))) c1 rfl ?_ ?_; (· (first | trivial | omega | ((try simp only [R64, true_and, and_true, Int.toNat_natCast, List.length_cons, List.length_nil]); omega)))) ) | (refine OpsDL.same ?_; first | refine OpsD.pc rfl (Fits.eq rfl) c1 rfl ?_ | (refine OpsD.pcp rfl (Fits.eq rfl) c1 rfl ?_ ?_; (· (first | trivial | omega | ((try simp only [R64, true_and, and_true, Int.toNat_natCast, List.length_cons, List.length_nil]); omega)))) | refine OpsD.pc rfl (Fits.veq (by (repeat' first | exact True.intro | exact VEq.refl _ | exact EEq.same _ | exact CEq.refl _ | exact VEq.int rfl | apply VEq.tru | apply VEq.fls | apply VEq.bool | apply VEq.int | exact VEq.nill rfl | exact VEq.zl rfl | exact VEq.nil | exact VEq.li_1 | exact VEq.li_2 | exact VEq.li_3 | exact VEq.li_4 | exact VEq.lp_1 | exact VEq.lp_2 | exact VEq.lp_3 | exact VEq.lp_4 | exact VEq.lt_1 | exact VEq.lt_2 | exact VEq.lt_3 | apply VEq.ms | apply VEq.sll | apply VEq.aggs | apply EEq.boxs | apply EEq.app1 | apply EEq.app2 | apply EEq.app3 | apply CEq.ms | apply CEq.int | apply CEq.sll | exact CEq.nill rfl | apply And.intro | exact rfl))) c1 rfl ?_ | (refine OpsD.pcp rfl (Fits.veq (by (repeat' first | exact True.intro | exact VEq.refl _ | exact EEq.same _ | exact CEq.refl _ | exact VEq.int rfl | apply VEq.tru | apply VEq.fls | apply VEq.bool | apply VEq.int | exact VEq.nill rfl | exact VEq.zl rfl | exact VEq.nil | exact VEq.li_1 | exact VEq.li_2 | exact VEq.li_3 | exact VEq.li_4 | exact VEq.lp_1 | exact VEq.lp_2 | exact VEq.lp_3 | exact VEq.lp_4 | exact VEq.lt_1 | exact VEq.lt_2 | exact VEq.lt_3 | apply VEq.ms | apply VEq.sll | apply VEq.aggs | apply EEq.boxs | apply EEq.app1 | apply EEq.app2 | apply EEq.app3 | apply CEq.ms | apply CEq.int | apply CEq.sll | exact CEq.nill rfl | apply And.intro | exact rfl))) c1 rfl ?_ ?_; (· (first | trivial | omega | ((try simp only [R64, true_and, and_true, Int.toNat_natCast, List.length_cons, List.length_nil]); omega)))) ) | refine MvQ.stay ?_ | refine Owe.mk ?_ ?_)
    · (refine RetQ.plain (Nat.le_refl _) (by first | exact .inr rfl | exact .inl rfl) rfl (by (simp only [cloL, clo, cloC, cloCs, and_self])) ?_; (repeat' first | exact True.intro | exact VEq.refl _ | exact EEq.same _ | exact CEq.refl _ | exact VEq.int rfl | apply VEq.tru | apply VEq.fls | apply VEq.bool | apply VEq.int | exact VEq.nill rfl | exact VEq.zl rfl | exact VEq.nil | exact VEq.li_1 | exact VEq.li_2 | exact VEq.li_3 | exact VEq.li_4 | exact VEq.lp_1 | exact VEq.lp_2 | exact VEq.lp_3 | exact VEq.lp_4 | exact VEq.lt_1 | exact VEq.lt_2 | exact VEq.lt_3 | apply VEq.ms | apply VEq.sll | apply VEq.aggs | apply EEq.boxs | apply EEq.app1 | apply EEq.app2 | apply EEq.app3 | apply CEq.ms | apply CEq.int | apply CEq.sll | exact CEq.nill rfl | apply And.intro | exact rfl))
    · exact absurd h h0
abbrev nrI (a : Rg) : Int := max (max a.1 (-a.2)) 0
abbrev frI (a : Rg) : Int := max (-a.1) a.2
abbrev sbF (L : Ln) (i : Nat) : Rg := (nrI (plF L i) * nrI (plF L i) + L.pz (i + 1) * L.pz (i + 1), frI (plF L i) * frI (plF L i) + L.pz (i + 1) * L.pz (i + 1))
theorem C69 {x z : Int} {l : List Lk} {b : List Rg} : (l.length ≤ 1000000 ∧ b.length ≤ 1000000) → PFD Try.prog 69 [.agg [int x, int z, trs l], .c (prs b)]
    (.tup [.c (prs (orE (lbE x z l b).2 (accL (sbF ⟨x, z, l, b⟩) l.length))), vi .i64 (lbE x z l b).2]) := fun hl => by
  have c1 := C127 (x := x) (z := z) hl
  by_cases h0 : (lbE x z l b).2 = 0
  · have hL : (Ln.mk x z l b).Ok := lbE_ok h0
    rw [orE, if_pos h0]
    obtain ⟨L, hLe⟩ : ∃ L, L = Ln.mk x z l b := ⟨_, rfl⟩
    rw [← hLe] at hL c1 ⊢
    rw [show l.length = L.l.length by rw [hLe]]
    refine PFD.of (vs := [_, _]) fn69 rfl (by (simp only [cloL, clo, cloC, cloCs, and_self])) ?_
    (repeat' first | (refine Owe.mk ?_ ?_; (· (first | trivial | omega | ((try simp only [R64, true_and, and_true, Int.toNat_natCast, List.length_cons, List.length_nil]); omega)))) | (refine Fork.same ?_; first | refine Fork.dec (fun h => ?_) (fun h => ?_) | refine Fork.ndec (fun h => ?_) (fun h => ?_) | refine Fork.mk (fun h => ?_) (fun h => ?_)) | (refine OpsL.same ?_; first | refine Ops.pc rfl (Fits.eq rfl) c1 rfl ?_ | (refine Ops.pcp rfl (Fits.eq rfl) c1 rfl ?_ ?_; (· (first | trivial | omega | ((try simp only [R64, true_and, and_true, Int.toNat_natCast, List.length_cons, List.length_nil]); omega)))) | refine Ops.pc rfl (Fits.veq (by (repeat' first | exact True.intro | exact VEq.refl _ | exact EEq.same _ | exact CEq.refl _ | exact VEq.int rfl | apply VEq.tru | apply VEq.fls | apply VEq.bool | apply VEq.int | exact VEq.nill rfl | exact VEq.zl rfl | exact VEq.nil | exact VEq.li_1 | exact VEq.li_2 | exact VEq.li_3 | exact VEq.li_4 | exact VEq.lp_1 | exact VEq.lp_2 | exact VEq.lp_3 | exact VEq.lp_4 | exact VEq.lt_1 | exact VEq.lt_2 | exact VEq.lt_3 | apply VEq.ms | apply VEq.sll | apply VEq.aggs | apply EEq.boxs | apply EEq.app1 | apply EEq.app2 | apply EEq.app3 | apply CEq.ms | apply CEq.int | apply CEq.sll | exact CEq.nill rfl | apply And.intro | exact rfl))) c1 rfl ?_ | (refine Ops.pcp rfl (Fits.veq (by (repeat' first | exact True.intro | exact VEq.refl _ | exact EEq.same _ | exact CEq.refl _ | exact VEq.int rfl | apply VEq.tru | apply VEq.fls | apply VEq.bool | apply VEq.int | exact VEq.nill rfl | exact VEq.zl rfl | exact VEq.nil | exact VEq.li_1 | exact VEq.li_2 | exact VEq.li_3 | exact VEq.li_4 | exact VEq.lp_1 | exact VEq.lp_2 | exact VEq.lp_3 | exact VEq.lp_4 | exact VEq.lt_1 | exact VEq.lt_2 | exact VEq.lt_3 | apply VEq.ms | apply VEq.sll | apply VEq.aggs | apply EEq.boxs | apply EEq.app1 | apply EEq.app2 | apply EEq.app3 | apply CEq.ms | apply CEq.int | apply CEq.sll | exact CEq.nill rfl | apply And.intro | exact rfl))) c1 rfl ?_ ?_; (· (first | trivial | omega | ((try simp only [R64, true_and, and_true, Int.toNat_natCast, List.length_cons, List.length_nil]); omega)))) ) | (refine OpsDL.same ?_; first | refine OpsD.pc rfl (Fits.eq rfl) c1 rfl ?_ | (refine OpsD.pcp rfl (Fits.eq rfl) c1 rfl ?_ ?_; (· (first | trivial | omega | ((try simp only [R64, true_and, and_true, Int.toNat_natCast, List.length_cons, List.length_nil]); omega)))) | refine OpsD.pc rfl (Fits.veq (by (repeat' first | exact True.intro | exact VEq.refl _ | exact EEq.same _ | exact CEq.refl _ | exact VEq.int rfl | apply VEq.tru | apply VEq.fls | apply VEq.bool | apply VEq.int | exact VEq.nill rfl | exact VEq.zl rfl | exact VEq.nil | exact VEq.li_1 | exact VEq.li_2 | exact VEq.li_3 | exact VEq.li_4 | exact VEq.lp_1 | exact VEq.lp_2 | exact VEq.lp_3 | exact VEq.lp_4 | exact VEq.lt_1 | exact VEq.lt_2 | exact VEq.lt_3 | apply VEq.ms | apply VEq.sll | apply VEq.aggs | apply EEq.boxs | apply EEq.app1 | apply EEq.app2 | apply EEq.app3 | apply CEq.ms | apply CEq.int | apply CEq.sll | exact CEq.nill rfl | apply And.intro | exact rfl))) c1 rfl ?_ | (refine OpsD.pcp rfl (Fits.veq (by (repeat' first | exact True.intro | exact VEq.refl _ | exact EEq.same _ | exact CEq.refl _ | exact VEq.int rfl | apply VEq.tru | apply VEq.fls | apply VEq.bool | apply VEq.int | exact VEq.nill rfl | exact VEq.zl rfl | exact VEq.nil | exact VEq.li_1 | exact VEq.li_2 | exact VEq.li_3 | exact VEq.li_4 | exact VEq.lp_1 | exact VEq.lp_2 | exact VEq.lp_3 | exact VEq.lp_4 | exact VEq.lt_1 | exact VEq.lt_2 | exact VEq.lt_3 | apply VEq.ms | apply VEq.sll | apply VEq.aggs | apply EEq.boxs | apply EEq.app1 | apply EEq.app2 | apply EEq.app3 | apply CEq.ms | apply CEq.int | apply CEq.sll | exact CEq.nill rfl | apply And.intro | exact rfl))) c1 rfl ?_ ?_; (· (first | trivial | omega | ((try simp only [R64, true_and, and_true, Int.toNat_natCast, List.length_cons, List.length_nil]); omega)))) ) | refine MvQ.stay ?_ | refine Owe.mk ?_ ?_)
    · exact absurd h0 h
    refine Ops.cs rfl rfl (CallS.of fn113 rfl ?_); refine Sat.keep [8, 23] ?_; refine Sat.rf rfl rfl (CallS.of fn141 rfl ?_); (repeat' first | (refine Owe.mk ?_ ?_; (· (first | trivial | omega | ((try simp only [R64, true_and, and_true, Int.toNat_natCast, List.length_cons, List.length_nil]); omega)))) | (refine Fork.same ?_; first | refine Fork.dec (fun h => ?_) (fun h => ?_) | refine Fork.ndec (fun h => ?_) (fun h => ?_) | refine Fork.mk (fun h => ?_) (fun h => ?_)) | refine MvQ.stay ?_ | refine Owe.mk ?_ ?_)
    refine Sat.nilB 2 0 85 2 (fun i => r2 (([] : List Rg).getD i (0, 0))) rfl rfl ?_
    refine Sat.lp (fun k : Nat => ⟨[(24, vi .i64 k), (23, vi .i64 L.l.length), (22, .c (trs L.l)), (3, .c (.bp 5 0)), (1, .c (.bp 3 0)), (0, .c (.yd 4))], [(5, .box [int (L.pl k), int (L.ph k), int (L.pz k), int (L.hh k)]), (4, .lp [(8, .c (.bp 2 0)), (23, .c (.fn 141 [3]))] .ready none (RR Try.prog 65 [24, 25] ra69 rb69)), (3, .box L.v), (2, .box [.ms 6 (accL (sbF L) k).length]), (6, rowv 85 2 r2 (0, 0) (accL (sbF L) k))], 7⟩)
      (fun k => k ≤ L.l.length) (fun k => L.l.length - k) 0 [5, 6] (Nat.zero_le _) ?_ ?_
    · refine ⟨rfl, ?_, ?_⟩ <;> (repeat' first | exact True.intro | exact VEq.refl _ | exact EEq.same _ | exact CEq.refl _ | exact VEq.int rfl | apply VEq.tru | apply VEq.fls | apply VEq.bool | apply VEq.int | exact VEq.nill rfl | exact VEq.zl rfl | exact VEq.nil | exact VEq.li_1 | exact VEq.li_2 | exact VEq.li_3 | exact VEq.li_4 | exact VEq.lp_1 | exact VEq.lp_2 | exact VEq.lp_3 | exact VEq.lp_4 | exact VEq.lt_1 | exact VEq.lt_2 | exact VEq.lt_3 | apply VEq.ms | apply VEq.sll | apply VEq.aggs | apply EEq.boxs | apply EEq.app1 | apply EEq.app2 | apply EEq.app3 | apply CEq.ms | apply CEq.int | apply CEq.sll | exact CEq.nill rfl | apply And.intro | exact rfl)
    · intro k hk
      refine Fork.dec (fun hlt => ?_) (fun hlt => ?_)
      · have hlt : k < L.l.length := by omega
        have hrd := hL.round hlt
        have hn := accL_len (sbF L) k
        have hs := accL_succ (sbF L) k
        have hb := hL.bd (k + 1) (by omega)
        have m1 := mbd (a := nrI (plF L k)) (b := nrI (plF L k)) (A := 20000) (B := 20000) (by simp only [nrI, plF]; omega) (by simp only [nrI, plF]; omega)
        have m2 := mbd (a := frI (plF L k)) (b := frI (plF L k)) (A := 20000) (B := 20000) (by simp only [frI, plF]; omega) (by simp only [frI, plF]; omega)
        have m3 := mbd (a := L.pz (k + 1)) (b := L.pz (k + 1)) (A := 20000) (B := 20000) hb.2.2 hb.2.2
        simp only [nrI, frI, plF, Ln.pl, Ln.ph, Ln.pz, Ln.d, Ln.lo, Ln.hi, Ln.w] at m1 m2 m3
        (repeat' first | (refine Owe.mk ?_ ?_; (· (first | trivial | omega | ((try simp only [R64, true_and, and_true, Int.toNat_natCast, List.length_cons, List.length_nil]); omega)))) | (refine Fork.same ?_; first | refine Fork.dec (fun h => ?_) (fun h => ?_) | refine Fork.ndec (fun h => ?_) (fun h => ?_) | refine Fork.mk (fun h => ?_) (fun h => ?_)) | refine MvQ.stay ?_ | refine Owe.mk ?_ ?_)
        refine Ops.yd rfl rfl rfl rfl rfl ?_
        (repeat' first | (refine Owe.mk ?_ ?_; (· (first | trivial | omega | ((try simp only [R64, true_and, and_true, Int.toNat_natCast, List.length_cons, List.length_nil]); omega)))) | (refine Fork.same ?_; first | refine Fork.dec (fun h => ?_) (fun h => ?_) | refine Fork.ndec (fun h => ?_) (fun h => ?_) | refine Fork.mk (fun h => ?_) (fun h => ?_)) | refine MvQ.stay ?_ | refine Owe.mk ?_ ?_)
        refine And.intro rfl (Exists.intro _ (And.intro rfl ?_))
        (repeat' first | (refine Owe.mk ?_ ?_; (· (first | trivial | omega | ((try simp only [R64, true_and, and_true, Int.toNat_natCast, List.length_cons, List.length_nil]); omega)))) | (refine Fork.same ?_; first | refine Fork.dec (fun h => ?_) (fun h => ?_) | refine Fork.ndec (fun h => ?_) (fun h => ?_) | refine Fork.mk (fun h => ?_) (fun h => ?_)) | refine MvQ.stay ?_ | refine Owe.mk ?_ ?_)
        refine Exists.intro _ (Exists.intro _ (Exists.intro _ (And.intro rfl ?_)))
        (repeat' first | (refine Owe.mk ?_ ?_; (· (first | trivial | omega | ((try simp only [R64, true_and, and_true, Int.toNat_natCast, List.length_cons, List.length_nil]); omega)))) | (refine Fork.same ?_; first | refine Fork.dec (fun h => ?_) (fun h => ?_) | refine Fork.ndec (fun h => ?_) (fun h => ?_) | refine Fork.mk (fun h => ?_) (fun h => ?_)) | refine MvQ.stay ?_ | refine Owe.mk ?_ ?_)
        refine again (k + 1) [5, 70] hlt (by omega) ?_
        refine ⟨rfl, ?_, ?_⟩ <;> (repeat' first | exact True.intro | exact VEq.refl _ | exact EEq.same _ | exact CEq.refl _ | exact VEq.int rfl | apply VEq.tru | apply VEq.fls | apply VEq.bool | apply VEq.int | exact VEq.nill rfl | exact VEq.zl rfl | exact VEq.nil | exact VEq.li_1 | exact VEq.li_2 | exact VEq.li_3 | exact VEq.li_4 | exact VEq.lp_1 | exact VEq.lp_2 | exact VEq.lp_3 | exact VEq.lp_4 | exact VEq.lt_1 | exact VEq.lt_2 | exact VEq.lt_3 | apply VEq.ms | apply VEq.sll | apply VEq.aggs | apply EEq.boxs | apply EEq.app1 | apply EEq.app2 | apply EEq.app3 | apply CEq.ms | apply CEq.int | apply CEq.sll | exact CEq.nill rfl | apply And.intro | exact rfl)
        · rw [hs]; simp
        · exact hs
      · (repeat' first | (refine Owe.mk ?_ ?_; (· (first | trivial | omega | ((try simp only [R64, true_and, and_true, Int.toNat_natCast, List.length_cons, List.length_nil]); omega)))) | (refine Fork.same ?_; first | refine Fork.dec (fun h => ?_) (fun h => ?_) | refine Fork.ndec (fun h => ?_) (fun h => ?_) | refine Fork.mk (fun h => ?_) (fun h => ?_)) | refine MvQ.stay ?_ | refine Owe.mk ?_ ?_)
        have : k = L.l.length := by omega
        subst this
        refine RetQ.of (by first | exact .inr rfl | exact .inl rfl) rfl rfl ((Mv.freeze 0 _ rfl rfl (Nat.le_refl _)).trans (Mv.plain (by rfl) ?_)); (repeat' first | exact True.intro | exact VEq.refl _ | exact EEq.same _ | exact CEq.refl _ | exact VEq.int rfl | apply VEq.tru | apply VEq.fls | apply VEq.bool | apply VEq.int | exact VEq.nill rfl | exact VEq.zl rfl | exact VEq.nil | exact VEq.li_1 | exact VEq.li_2 | exact VEq.li_3 | exact VEq.li_4 | exact VEq.lp_1 | exact VEq.lp_2 | exact VEq.lp_3 | exact VEq.lp_4 | exact VEq.lt_1 | exact VEq.lt_2 | exact VEq.lt_3 | apply VEq.ms | apply VEq.sll | apply VEq.aggs | apply EEq.boxs | apply EEq.app1 | apply EEq.app2 | apply EEq.app3 | apply CEq.ms | apply CEq.int | apply CEq.sll | exact CEq.nill rfl | apply And.intro | exact rfl)
        exact h0.symm
  · rw [orE, if_neg h0]
    refine PFD.of (vs := [_, _]) fn69 rfl (by (simp only [cloL, clo, cloC, cloCs, and_self])) ?_
    (repeat' first | (refine Owe.mk ?_ ?_; (· (first | trivial | omega | ((try simp only [R64, true_and, and_true, Int.toNat_natCast, List.length_cons, List.length_nil]); omega)))) | (refine Fork.same ?_; first | refine Fork.dec (fun h => ?_) (fun h => ?_) | refine Fork.ndec (fun h => ?_) (fun h => ?_) | refine Fork.mk (fun h => ?_) (fun h => ?_)) | (refine OpsL.same ?_; first | refine Ops.pc rfl (Fits.eq rfl) c1 rfl ?_ | (refine Ops.pcp rfl (Fits.eq rfl) c1 rfl ?_ ?_; (· (first | trivial | omega | ((try simp only [R64, true_and, and_true, Int.toNat_natCast, List.length_cons, List.length_nil]); omega)))) | refine Ops.pc rfl (Fits.veq (by (repeat' first | exact True.intro | exact VEq.refl _ | exact EEq.same _ | exact CEq.refl _ | exact VEq.int rfl | apply VEq.tru | apply VEq.fls | apply VEq.bool | apply VEq.int | exact VEq.nill rfl | exact VEq.zl rfl | exact VEq.nil | exact VEq.li_1 | exact VEq.li_2 | exact VEq.li_3 | exact VEq.li_4 | exact VEq.lp_1 | exact VEq.lp_2 | exact VEq.lp_3 | exact VEq.lp_4 | exact VEq.lt_1 | exact VEq.lt_2 | exact VEq.lt_3 | apply VEq.ms | apply VEq.sll | apply VEq.aggs | apply EEq.boxs | apply EEq.app1 | apply EEq.app2 | apply EEq.app3 | apply CEq.ms | apply CEq.int | apply CEq.sll | exact CEq.nill rfl | apply And.intro | exact rfl))) c1 rfl ?_ | (refine Ops.pcp rfl (Fits.veq (by (repeat' first | exact True.intro | exact VEq.refl _ | exact EEq.same _ | exact CEq.refl _ | exact VEq.int rfl | apply VEq.tru | apply VEq.fls | apply VEq.bool | apply VEq.int | exact VEq.nill rfl | exact VEq.zl rfl | exact VEq.nil | exact VEq.li_1 | exact VEq.li_2 | exact VEq.li_3 | exact VEq.li_4 | exact VEq.lp_1 | exact VEq.lp_2 | exact VEq.lp_3 | exact VEq.lp_4 | exact VEq.lt_1 | exact VEq.lt_2 | exact VEq.lt_3 | apply VEq.ms | apply VEq.sll | apply VEq.aggs | apply EEq.boxs | apply EEq.app1 | apply EEq.app2 | apply EEq.app3 | apply CEq.ms | apply CEq.int | apply CEq.sll | exact CEq.nill rfl | apply And.intro | exact rfl))) c1 rfl ?_ ?_; (· (first | trivial | omega | ((try simp only [R64, true_and, and_true, Int.toNat_natCast, List.length_cons, List.length_nil]); omega)))) ) | (refine OpsDL.same ?_; first | refine OpsD.pc rfl (Fits.eq rfl) c1 rfl ?_ | (refine OpsD.pcp rfl (Fits.eq rfl) c1 rfl ?_ ?_; (· (first | trivial | omega | ((try simp only [R64, true_and, and_true, Int.toNat_natCast, List.length_cons, List.length_nil]); omega)))) | refine OpsD.pc rfl (Fits.veq (by (repeat' first | exact True.intro | exact VEq.refl _ | exact EEq.same _ | exact CEq.refl _ | exact VEq.int rfl | apply VEq.tru | apply VEq.fls | apply VEq.bool | apply VEq.int | exact VEq.nill rfl | exact VEq.zl rfl | exact VEq.nil | exact VEq.li_1 | exact VEq.li_2 | exact VEq.li_3 | exact VEq.li_4 | exact VEq.lp_1 | exact VEq.lp_2 | exact VEq.lp_3 | exact VEq.lp_4 | exact VEq.lt_1 | exact VEq.lt_2 | exact VEq.lt_3 | apply VEq.ms | apply VEq.sll | apply VEq.aggs | apply EEq.boxs | apply EEq.app1 | apply EEq.app2 | apply EEq.app3 | apply CEq.ms | apply CEq.int | apply CEq.sll | exact CEq.nill rfl | apply And.intro | exact rfl))) c1 rfl ?_ | (refine OpsD.pcp rfl (Fits.veq (by (repeat' first | exact True.intro | exact VEq.refl _ | exact EEq.same _ | exact CEq.refl _ | exact VEq.int rfl | apply VEq.tru | apply VEq.fls | apply VEq.bool | apply VEq.int | exact VEq.nill rfl | exact VEq.zl rfl | exact VEq.nil | exact VEq.li_1 | exact VEq.li_2 | exact VEq.li_3 | exact VEq.li_4 | exact VEq.lp_1 | exact VEq.lp_2 | exact VEq.lp_3 | exact VEq.lp_4 | exact VEq.lt_1 | exact VEq.lt_2 | exact VEq.lt_3 | apply VEq.ms | apply VEq.sll | apply VEq.aggs | apply EEq.boxs | apply EEq.app1 | apply EEq.app2 | apply EEq.app3 | apply CEq.ms | apply CEq.int | apply CEq.sll | exact CEq.nill rfl | apply And.intro | exact rfl))) c1 rfl ?_ ?_; (· (first | trivial | omega | ((try simp only [R64, true_and, and_true, Int.toNat_natCast, List.length_cons, List.length_nil]); omega)))) ) | refine MvQ.stay ?_ | refine Owe.mk ?_ ?_)
    · (refine RetQ.plain (Nat.le_refl _) (by first | exact .inr rfl | exact .inl rfl) rfl (by (simp only [cloL, clo, cloC, cloCs, and_self])) ?_; (repeat' first | exact True.intro | exact VEq.refl _ | exact EEq.same _ | exact CEq.refl _ | exact VEq.int rfl | apply VEq.tru | apply VEq.fls | apply VEq.bool | apply VEq.int | exact VEq.nill rfl | exact VEq.zl rfl | exact VEq.nil | exact VEq.li_1 | exact VEq.li_2 | exact VEq.li_3 | exact VEq.li_4 | exact VEq.lp_1 | exact VEq.lp_2 | exact VEq.lp_3 | exact VEq.lp_4 | exact VEq.lt_1 | exact VEq.lt_2 | exact VEq.lt_3 | apply VEq.ms | apply VEq.sll | apply VEq.aggs | apply EEq.boxs | apply EEq.app1 | apply EEq.app2 | apply EEq.app3 | apply CEq.ms | apply CEq.int | apply CEq.sll | exact CEq.nill rfl | apply And.intro | exact rfl))
    · exact absurd h h0
theorem C72 {x z : Int} {l : List Lk} {b : List Rg} : (l.length ≤ 1000000 ∧ b.length ≤ 1000000) → PFD Try.prog 72 [.agg [int x, int z, trs l], .c (prs b)] (vi .i64 (boxE l.length b).2) := fun hl => by
  have c1 := C52 (x := x) (z := z) hl
  refine PFD.of (vs := [_]) fn72 rfl (by (simp only [cloL, clo, cloC, cloCs, and_self])) ?_
  (repeat' first | (refine Owe.mk ?_ ?_; (· (first | trivial | omega | ((try simp only [R64, true_and, and_true, Int.toNat_natCast, List.length_cons, List.length_nil]); omega)))) | (refine Fork.same ?_; first | refine Fork.dec (fun h => ?_) (fun h => ?_) | refine Fork.ndec (fun h => ?_) (fun h => ?_) | refine Fork.mk (fun h => ?_) (fun h => ?_)) | (refine OpsL.same ?_; first | refine Ops.pc rfl (Fits.eq rfl) c1 rfl ?_ | (refine Ops.pcp rfl (Fits.eq rfl) c1 rfl ?_ ?_; (· (first | trivial | omega | ((try simp only [R64, true_and, and_true, Int.toNat_natCast, List.length_cons, List.length_nil]); omega)))) | refine Ops.pc rfl (Fits.veq (by (repeat' first | exact True.intro | exact VEq.refl _ | exact EEq.same _ | exact CEq.refl _ | exact VEq.int rfl | apply VEq.tru | apply VEq.fls | apply VEq.bool | apply VEq.int | exact VEq.nill rfl | exact VEq.zl rfl | exact VEq.nil | exact VEq.li_1 | exact VEq.li_2 | exact VEq.li_3 | exact VEq.li_4 | exact VEq.lp_1 | exact VEq.lp_2 | exact VEq.lp_3 | exact VEq.lp_4 | exact VEq.lt_1 | exact VEq.lt_2 | exact VEq.lt_3 | apply VEq.ms | apply VEq.sll | apply VEq.aggs | apply EEq.boxs | apply EEq.app1 | apply EEq.app2 | apply EEq.app3 | apply CEq.ms | apply CEq.int | apply CEq.sll | exact CEq.nill rfl | apply And.intro | exact rfl))) c1 rfl ?_ | (refine Ops.pcp rfl (Fits.veq (by (repeat' first | exact True.intro | exact VEq.refl _ | exact EEq.same _ | exact CEq.refl _ | exact VEq.int rfl | apply VEq.tru | apply VEq.fls | apply VEq.bool | apply VEq.int | exact VEq.nill rfl | exact VEq.zl rfl | exact VEq.nil | exact VEq.li_1 | exact VEq.li_2 | exact VEq.li_3 | exact VEq.li_4 | exact VEq.lp_1 | exact VEq.lp_2 | exact VEq.lp_3 | exact VEq.lp_4 | exact VEq.lt_1 | exact VEq.lt_2 | exact VEq.lt_3 | apply VEq.ms | apply VEq.sll | apply VEq.aggs | apply EEq.boxs | apply EEq.app1 | apply EEq.app2 | apply EEq.app3 | apply CEq.ms | apply CEq.int | apply CEq.sll | exact CEq.nill rfl | apply And.intro | exact rfl))) c1 rfl ?_ ?_; (· (first | trivial | omega | ((try simp only [R64, true_and, and_true, Int.toNat_natCast, List.length_cons, List.length_nil]); omega)))) ) | (refine OpsDL.same ?_; first | refine OpsD.pc rfl (Fits.eq rfl) c1 rfl ?_ | (refine OpsD.pcp rfl (Fits.eq rfl) c1 rfl ?_ ?_; (· (first | trivial | omega | ((try simp only [R64, true_and, and_true, Int.toNat_natCast, List.length_cons, List.length_nil]); omega)))) | refine OpsD.pc rfl (Fits.veq (by (repeat' first | exact True.intro | exact VEq.refl _ | exact EEq.same _ | exact CEq.refl _ | exact VEq.int rfl | apply VEq.tru | apply VEq.fls | apply VEq.bool | apply VEq.int | exact VEq.nill rfl | exact VEq.zl rfl | exact VEq.nil | exact VEq.li_1 | exact VEq.li_2 | exact VEq.li_3 | exact VEq.li_4 | exact VEq.lp_1 | exact VEq.lp_2 | exact VEq.lp_3 | exact VEq.lp_4 | exact VEq.lt_1 | exact VEq.lt_2 | exact VEq.lt_3 | apply VEq.ms | apply VEq.sll | apply VEq.aggs | apply EEq.boxs | apply EEq.app1 | apply EEq.app2 | apply EEq.app3 | apply CEq.ms | apply CEq.int | apply CEq.sll | exact CEq.nill rfl | apply And.intro | exact rfl))) c1 rfl ?_ | (refine OpsD.pcp rfl (Fits.veq (by (repeat' first | exact True.intro | exact VEq.refl _ | exact EEq.same _ | exact CEq.refl _ | exact VEq.int rfl | apply VEq.tru | apply VEq.fls | apply VEq.bool | apply VEq.int | exact VEq.nill rfl | exact VEq.zl rfl | exact VEq.nil | exact VEq.li_1 | exact VEq.li_2 | exact VEq.li_3 | exact VEq.li_4 | exact VEq.lp_1 | exact VEq.lp_2 | exact VEq.lp_3 | exact VEq.lp_4 | exact VEq.lt_1 | exact VEq.lt_2 | exact VEq.lt_3 | apply VEq.ms | apply VEq.sll | apply VEq.aggs | apply EEq.boxs | apply EEq.app1 | apply EEq.app2 | apply EEq.app3 | apply CEq.ms | apply CEq.int | apply CEq.sll | exact CEq.nill rfl | apply And.intro | exact rfl))) c1 rfl ?_ ?_; (· (first | trivial | omega | ((try simp only [R64, true_and, and_true, Int.toNat_natCast, List.length_cons, List.length_nil]); omega)))) ) | refine MvQ.stay ?_ | refine Owe.mk ?_ ?_)
  (refine RetQ.plain (Nat.le_refl _) (by first | exact .inr rfl | exact .inl rfl) rfl (by (simp only [cloL, clo, cloC, cloCs, and_self])) ?_; (repeat' first | exact True.intro | exact VEq.refl _ | exact EEq.same _ | exact CEq.refl _ | exact VEq.int rfl | apply VEq.tru | apply VEq.fls | apply VEq.bool | apply VEq.int | exact VEq.nill rfl | exact VEq.zl rfl | exact VEq.nil | exact VEq.li_1 | exact VEq.li_2 | exact VEq.li_3 | exact VEq.li_4 | exact VEq.lp_1 | exact VEq.lp_2 | exact VEq.lp_3 | exact VEq.lp_4 | exact VEq.lt_1 | exact VEq.lt_2 | exact VEq.lt_3 | apply VEq.ms | apply VEq.sll | apply VEq.aggs | apply EEq.boxs | apply EEq.app1 | apply EEq.app2 | apply EEq.app3 | apply CEq.ms | apply CEq.int | apply CEq.sll | exact CEq.nill rfl | apply And.intro | exact rfl))
abbrev endF (g : Bool) (b : List Rg) (i : Nat) : Int := if g then (b.getD i (0, 0)).2 else (b.getD i (0, 0)).1
theorem C128 {b : List Rg} {g : Bool} : b.length ≤ 1000000 → PFD Try.prog 128 [.c (prs b), vbl g] (.c (ints (accL (endF g b) b.length))) := fun hl => by
  refine PFD.of (vs := [_]) fn128 rfl (by (simp only [cloL, clo, cloC, cloCs, and_self])) ?_
  (repeat' first | (refine Owe.mk ?_ ?_; (· (first | trivial | omega | ((try simp only [R64, true_and, and_true, Int.toNat_natCast, List.length_cons, List.length_nil]); omega)))) | (refine Fork.same ?_; first | refine Fork.dec (fun h => ?_) (fun h => ?_) | refine Fork.ndec (fun h => ?_) (fun h => ?_) | refine Fork.mk (fun h => ?_) (fun h => ?_)) | refine MvQ.stay ?_ | refine Owe.mk ?_ ?_)
  refine Sat.nilS 5 3 1 (fun i => r1 (([] : List Int).getD i 0)) rfl ?_
  refine Sat.lp (fun k : Nat => ⟨[(6, vi .i64 k), (0, .c (prs b)), (1, vbl g), (5, .c (.ms 0 (accL (endF g b) k).length))], [(0, rowv 3 1 r1 0 (accL (endF g b) k))], 1⟩)
    (fun k => k ≤ b.length) (fun k => b.length - k) 0 [0] (Nat.zero_le _) ?_ ?_
  · refine ⟨rfl, ?_, ?_⟩ <;> (repeat' first | exact True.intro | exact VEq.refl _ | exact EEq.same _ | exact CEq.refl _ | exact VEq.int rfl | apply VEq.tru | apply VEq.fls | apply VEq.bool | apply VEq.int | exact VEq.nill rfl | exact VEq.zl rfl | exact VEq.nil | exact VEq.li_1 | exact VEq.li_2 | exact VEq.li_3 | exact VEq.li_4 | exact VEq.lp_1 | exact VEq.lp_2 | exact VEq.lp_3 | exact VEq.lp_4 | exact VEq.lt_1 | exact VEq.lt_2 | exact VEq.lt_3 | apply VEq.ms | apply VEq.sll | apply VEq.aggs | apply EEq.boxs | apply EEq.app1 | apply EEq.app2 | apply EEq.app3 | apply CEq.ms | apply CEq.int | apply CEq.sll | exact CEq.nill rfl | apply And.intro | exact rfl)
  · intro k hk
    refine Fork.dec (fun hlt => ?_) (fun hlt => ?_)
    · have hlt : k < b.length := by omega
      have hn := accL_len (endF g b) k
      have hs := accL_succ (endF g b) k
      (repeat' first | (refine Owe.mk ?_ ?_; (· (first | trivial | omega | ((try simp only [R64, true_and, and_true, Int.toNat_natCast, List.length_cons, List.length_nil]); omega)))) | (refine Fork.same ?_; first | refine Fork.dec (fun h => ?_) (fun h => ?_) | refine Fork.ndec (fun h => ?_) (fun h => ?_) | refine Fork.mk (fun h => ?_) (fun h => ?_)) | refine MvQ.stay ?_ | refine Owe.mk ?_ ?_)
      · have hs : accL (endF g b) (k + 1) = accL (endF g b) k ++ [(b.getD k (0, 0)).2] := by rw [hs, endF, if_pos h]
        refine again (k + 1) [1] hlt (by omega) ?_
        refine ⟨rfl, ?_, ?_⟩ <;> (repeat' first | exact True.intro | exact VEq.refl _ | exact EEq.same _ | exact CEq.refl _ | exact VEq.int rfl | apply VEq.tru | apply VEq.fls | apply VEq.bool | apply VEq.int | exact VEq.nill rfl | exact VEq.zl rfl | exact VEq.nil | exact VEq.li_1 | exact VEq.li_2 | exact VEq.li_3 | exact VEq.li_4 | exact VEq.lp_1 | exact VEq.lp_2 | exact VEq.lp_3 | exact VEq.lp_4 | exact VEq.lt_1 | exact VEq.lt_2 | exact VEq.lt_3 | apply VEq.ms | apply VEq.sll | apply VEq.aggs | apply EEq.boxs | apply EEq.app1 | apply EEq.app2 | apply EEq.app3 | apply CEq.ms | apply CEq.int | apply CEq.sll | exact CEq.nill rfl | apply And.intro | exact rfl)
        · rw [hs]; simp
        · exact hs
      · have hs : accL (endF g b) (k + 1) = accL (endF g b) k ++ [(b.getD k (0, 0)).1] := by rw [hs, endF, if_neg (by rw [h]; decide)]
        refine again (k + 1) [1] hlt (by omega) ?_
        refine ⟨rfl, ?_, ?_⟩ <;> (repeat' first | exact True.intro | exact VEq.refl _ | exact EEq.same _ | exact CEq.refl _ | exact VEq.int rfl | apply VEq.tru | apply VEq.fls | apply VEq.bool | apply VEq.int | exact VEq.nill rfl | exact VEq.zl rfl | exact VEq.nil | exact VEq.li_1 | exact VEq.li_2 | exact VEq.li_3 | exact VEq.li_4 | exact VEq.lp_1 | exact VEq.lp_2 | exact VEq.lp_3 | exact VEq.lp_4 | exact VEq.lt_1 | exact VEq.lt_2 | exact VEq.lt_3 | apply VEq.ms | apply VEq.sll | apply VEq.aggs | apply EEq.boxs | apply EEq.app1 | apply EEq.app2 | apply EEq.app3 | apply CEq.ms | apply CEq.int | apply CEq.sll | exact CEq.nill rfl | apply And.intro | exact rfl)
        · rw [hs]; simp
        · exact hs
    · (repeat' first | (refine Owe.mk ?_ ?_; (· (first | trivial | omega | ((try simp only [R64, true_and, and_true, Int.toNat_natCast, List.length_cons, List.length_nil]); omega)))) | (refine Fork.same ?_; first | refine Fork.dec (fun h => ?_) (fun h => ?_) | refine Fork.ndec (fun h => ?_) (fun h => ?_) | refine Fork.mk (fun h => ?_) (fun h => ?_)) | refine MvQ.stay ?_ | refine Owe.mk ?_ ?_)
      have : k = b.length := by omega
      subst this
      refine RetQ.of (by first | exact .inr rfl | exact .inl rfl) rfl rfl ((Mv.freeze 0 _ rfl rfl (Nat.le_refl _)).trans (Mv.plain (by rfl) ?_)); (repeat' first | exact True.intro | exact VEq.refl _ | exact EEq.same _ | exact CEq.refl _ | exact VEq.int rfl | apply VEq.tru | apply VEq.fls | apply VEq.bool | apply VEq.int | exact VEq.nill rfl | exact VEq.zl rfl | exact VEq.nil | exact VEq.li_1 | exact VEq.li_2 | exact VEq.li_3 | exact VEq.li_4 | exact VEq.lp_1 | exact VEq.lp_2 | exact VEq.lp_3 | exact VEq.lp_4 | exact VEq.lt_1 | exact VEq.lt_2 | exact VEq.lt_3 | apply VEq.ms | apply VEq.sll | apply VEq.aggs | apply EEq.boxs | apply EEq.app1 | apply EEq.app2 | apply EEq.app3 | apply CEq.ms | apply CEq.int | apply CEq.sll | exact CEq.nill rfl | apply And.intro | exact rfl)
theorem gD_out {α : Type} {l : List α} {d : α} {k : Nat} (h : l.length ≤ k) : l.getD k d = d := by
  rw [List.getD_eq_getElem?_getD, List.getElem?_eq_none h]; rfl
/-- A box's smallest, or its greatest, currents alone. -/
abbrev enL (g : Bool) (b : List Rg) : List Int := accL (endF g b) b.length
theorem enL_get {g : Bool} {b : List Rg} (k : Nat) : (enL g b).getD k 0 = endF g b k := by
  by_cases h : k < b.length
  · exact accL_get _ h
  · have : (enL g b).length ≤ k := by rw [accL_len]; omega
    rw [gD_out this, endF, gD_out (by omega : b.length ≤ k)]
    cases g <;> rfl
theorem en_rg {g : Bool} {b : List Rg} (k : Nat) : ((enL g b).map dup).getD k (0, 0) = (endF g b k, endF g b k) := by
  by_cases h : k < b.length
  · rw [dup_get (by rw [accL_len]; exact h), enL_get]
  · have : ((enL g b).map dup).length ≤ k := by rw [List.length_map, accL_len]; omega
    rw [gD_out this, endF, gD_out (by omega : b.length ≤ k)]
    cases g <;> rfl
theorem en_pl {x z : Int} {l : List Lk} {b : List Rg} : ∀ k : Nat, (opL x z l (enL false b)).pl k = (Ln.mk x z l b).pl k
  | 0 => rfl
  | k + 1 => by
    show (opL x z l (enL false b)).pl k + _ * (((enL false b).map dup).getD k (0, 0)).1 = (Ln.mk x z l b).pl k + _ * (b.getD k (0, 0)).1
    rw [en_pl k, en_rg k]; rfl
theorem en_ph {x z : Int} {l : List Lk} {b : List Rg} : ∀ k : Nat, (opL x z l (enL true b)).ph k = (Ln.mk x z l b).ph k
  | 0 => rfl
  | k + 1 => by
    show (opL x z l (enL true b)).ph k + _ * (((enL true b).map dup).getD k (0, 0)).2 = (Ln.mk x z l b).ph k + _ * (b.getD k (0, 0)).2
    rw [en_ph k, en_rg k]; rfl
theorem en_pl2 {x z : Int} {l : List Lk} {b : List Rg} : ∀ k : Nat, (opL x z l (enL true b)).pl k = (Ln.mk x z l b).ph k
  | 0 => rfl
  | k + 1 => by
    show (opL x z l (enL true b)).pl k + _ * (((enL true b).map dup).getD k (0, 0)).1 = (Ln.mk x z l b).ph k + _ * (b.getD k (0, 0)).2
    rw [en_pl2 k, en_rg k]; rfl
theorem en_ok {g : Bool} {x z : Int} {l : List Lk} {b : List Rg} (h : (Ln.mk x z l b).Ok) : (opL x z l (enL g b)).Ok := by
  refine ⟨h.k, ?_, ?_⟩
  · show ((enL g b).map dup).length = l.length
    rw [List.length_map, accL_len]; exact h.b
  · intro r hr
    obtain ⟨n, hn, rfl⟩ := List.mem_map.1 hr
    obtain ⟨i, hi, rfl⟩ := List.mem_map.1 hn
    have h1 := h.c _ (getD_mem (0, 0) (List.mem_range.1 hi))
    obtain ⟨h1, h2, h3⟩ := h1
    have e : (b.getD i (0, 0)).1 = (Ln.mk x z l b).lo i := rfl
    simp only [dup, endF]
    cases g
    · exact ⟨h1, h1, Int.le_refl _⟩
    · exact ⟨h2, h2, Int.le_refl _⟩
theorem en_tight {g : Bool} {x z : Int} {l : List Lk} {b : List Rg} (h : (Ln.mk x z l b).Tight) : (opL x z l (enL g b)).Tight :=
  ⟨en_ok h.toOk, fun k hk => by have := h.t k hk; rw [opL_pz] at this ⊢; exact this⟩
theorem C74 {x z : Int} {l : List Lk} {b : List Rg} : (Ln.mk x z l b).Ok → PFD Try.prog 74 [.agg [int x, int z, trs l], .c (prs b)] (.c (prs (accL (plF ⟨x, z, l, b⟩) l.length))) := fun hL => by
  have hn : 0 < l.length ∧ l.length ≤ 10 := hL.k.n
  have hbl : b.length = l.length := hL.b
  have c1 := C128 (b := b) (g := false) (by omega)
  have c2 := C128 (b := b) (g := true) (by omega)
  have c3 := C40 (en_ok (g := false) hL)
  have c4 := C40 (en_ok (g := true) hL)
  have g1 : ∀ k, k < l.length → ((accL (tnF (opL x z l (enL false b))) l.length).getD k (0, 0)).1 = (Ln.mk x z l b).pl (k + 1) := fun k hk => by rw [accL_get _ hk]; exact en_pl (k + 1)
  have g2 : ∀ k, k < l.length → ((accL (tnF (opL x z l (enL true b))) l.length).getD k (0, 0)).1 = (Ln.mk x z l b).ph (k + 1) := fun k hk => by rw [accL_get _ hk]; exact en_pl2 (k + 1)
  have l1 := accL_len (tnF (opL x z l (enL false b))) l.length
  have l2 := accL_len (tnF (opL x z l (enL true b))) l.length
  generalize accL (tnF (opL x z l (enL false b))) l.length = S at *
  generalize accL (tnF (opL x z l (enL true b))) l.length = T at *
  generalize Ln.mk x z l b = L at *
  refine PFD.of (vs := [_]) fn74 rfl (by (simp only [cloL, clo, cloC, cloCs, and_self])) ?_
  (repeat' first | (refine Owe.mk ?_ ?_; (· (first | trivial | omega | ((try simp only [R64, true_and, and_true, Int.toNat_natCast, List.length_cons, List.length_nil]); omega)))) | (refine Fork.same ?_; first | refine Fork.dec (fun h => ?_) (fun h => ?_) | refine Fork.ndec (fun h => ?_) (fun h => ?_) | refine Fork.mk (fun h => ?_) (fun h => ?_)) | (refine OpsL.same ?_; first | refine Ops.pc rfl (Fits.eq rfl) c1 rfl ?_ | (refine Ops.pcp rfl (Fits.eq rfl) c1 rfl ?_ ?_; (· (first | trivial | omega | ((try simp only [R64, true_and, and_true, Int.toNat_natCast, List.length_cons, List.length_nil]); omega)))) | refine Ops.pc rfl (Fits.eq rfl) c2 rfl ?_ | (refine Ops.pcp rfl (Fits.eq rfl) c2 rfl ?_ ?_; (· (first | trivial | omega | ((try simp only [R64, true_and, and_true, Int.toNat_natCast, List.length_cons, List.length_nil]); omega)))) | refine Ops.pc rfl (Fits.eq rfl) c3 rfl ?_ | (refine Ops.pcp rfl (Fits.eq rfl) c3 rfl ?_ ?_; (· (first | trivial | omega | ((try simp only [R64, true_and, and_true, Int.toNat_natCast, List.length_cons, List.length_nil]); omega)))) | refine Ops.pc rfl (Fits.eq rfl) c4 rfl ?_ | (refine Ops.pcp rfl (Fits.eq rfl) c4 rfl ?_ ?_; (· (first | trivial | omega | ((try simp only [R64, true_and, and_true, Int.toNat_natCast, List.length_cons, List.length_nil]); omega)))) ) | (refine OpsDL.same ?_; first | refine OpsD.pc rfl (Fits.eq rfl) c1 rfl ?_ | (refine OpsD.pcp rfl (Fits.eq rfl) c1 rfl ?_ ?_; (· (first | trivial | omega | ((try simp only [R64, true_and, and_true, Int.toNat_natCast, List.length_cons, List.length_nil]); omega)))) | refine OpsD.pc rfl (Fits.eq rfl) c2 rfl ?_ | (refine OpsD.pcp rfl (Fits.eq rfl) c2 rfl ?_ ?_; (· (first | trivial | omega | ((try simp only [R64, true_and, and_true, Int.toNat_natCast, List.length_cons, List.length_nil]); omega)))) | refine OpsD.pc rfl (Fits.eq rfl) c3 rfl ?_ | (refine OpsD.pcp rfl (Fits.eq rfl) c3 rfl ?_ ?_; (· (first | trivial | omega | ((try simp only [R64, true_and, and_true, Int.toNat_natCast, List.length_cons, List.length_nil]); omega)))) | refine OpsD.pc rfl (Fits.eq rfl) c4 rfl ?_ | (refine OpsD.pcp rfl (Fits.eq rfl) c4 rfl ?_ ?_; (· (first | trivial | omega | ((try simp only [R64, true_and, and_true, Int.toNat_natCast, List.length_cons, List.length_nil]); omega)))) ) | refine MvQ.stay ?_ | refine Owe.mk ?_ ?_)
  refine Sat.nilS 7 85 2 (fun i => r2 (([] : List Rg).getD i (0, 0))) rfl ?_
  refine Sat.lp (fun k : Nat => ⟨[(8, vi .i64 k), (5, .c (prs S)), (6, .c (prs T)), (7, .c (.ms 1 (accL (plF L) k).length))], [(1, rowv 85 2 r2 (0, 0) (accL (plF L) k)), (0, .box [int x, int z, trs l])], 2⟩)
    (fun k => k ≤ l.length) (fun k => l.length - k) 0 [0, 7] (Nat.zero_le _) ?_ ?_
  · refine ⟨rfl, ?_, ?_⟩ <;> (repeat' first | exact True.intro | exact VEq.refl _ | exact EEq.same _ | exact CEq.refl _ | exact VEq.int rfl | apply VEq.tru | apply VEq.fls | apply VEq.bool | apply VEq.int | exact VEq.nill rfl | exact VEq.zl rfl | exact VEq.nil | exact VEq.li_1 | exact VEq.li_2 | exact VEq.li_3 | exact VEq.li_4 | exact VEq.lp_1 | exact VEq.lp_2 | exact VEq.lp_3 | exact VEq.lp_4 | exact VEq.lt_1 | exact VEq.lt_2 | exact VEq.lt_3 | apply VEq.ms | apply VEq.sll | apply VEq.aggs | apply EEq.boxs | apply EEq.app1 | apply EEq.app2 | apply EEq.app3 | apply CEq.ms | apply CEq.int | apply CEq.sll | exact CEq.nill rfl | apply And.intro | exact rfl)
  · intro k hk
    refine Fork.dec (fun hlt => ?_) (fun hlt => ?_)
    · have hlt : k < l.length := by omega
      have hm := accL_len (plF L) k
      have hs := accL_succ (plF L) k
      have h1 := g1 k hlt
      have h2 := g2 k hlt
      (repeat' first | (refine Owe.mk ?_ ?_; (· (first | trivial | omega | ((try simp only [R64, true_and, and_true, Int.toNat_natCast, List.length_cons, List.length_nil]); omega)))) | (refine Fork.same ?_; first | refine Fork.dec (fun h => ?_) (fun h => ?_) | refine Fork.ndec (fun h => ?_) (fun h => ?_) | refine Fork.mk (fun h => ?_) (fun h => ?_)) | refine MvQ.stay ?_ | refine Owe.mk ?_ ?_)
      have hs : accL (plF L) (k + 1) = accL (plF L) k ++ [((S.getD k (0, 0)).1, (T.getD k (0, 0)).1)] := by rw [hs, h1, h2]
      refine again (k + 1) [0, 15] hlt (by omega) ?_
      refine ⟨rfl, ?_, ?_⟩ <;> (repeat' first | exact True.intro | exact VEq.refl _ | exact EEq.same _ | exact CEq.refl _ | exact VEq.int rfl | apply VEq.tru | apply VEq.fls | apply VEq.bool | apply VEq.int | exact VEq.nill rfl | exact VEq.zl rfl | exact VEq.nil | exact VEq.li_1 | exact VEq.li_2 | exact VEq.li_3 | exact VEq.li_4 | exact VEq.lp_1 | exact VEq.lp_2 | exact VEq.lp_3 | exact VEq.lp_4 | exact VEq.lt_1 | exact VEq.lt_2 | exact VEq.lt_3 | apply VEq.ms | apply VEq.sll | apply VEq.aggs | apply EEq.boxs | apply EEq.app1 | apply EEq.app2 | apply EEq.app3 | apply CEq.ms | apply CEq.int | apply CEq.sll | exact CEq.nill rfl | apply And.intro | exact rfl)
      · rw [hs]; simp
      · exact hs
    · (repeat' first | (refine Owe.mk ?_ ?_; (· (first | trivial | omega | ((try simp only [R64, true_and, and_true, Int.toNat_natCast, List.length_cons, List.length_nil]); omega)))) | (refine Fork.same ?_; first | refine Fork.dec (fun h => ?_) (fun h => ?_) | refine Fork.ndec (fun h => ?_) (fun h => ?_) | refine Fork.mk (fun h => ?_) (fun h => ?_)) | refine MvQ.stay ?_ | refine Owe.mk ?_ ?_)
      have : k = l.length := by omega
      subst this
      refine RetQ.of (by first | exact .inr rfl | exact .inl rfl) rfl rfl ((Mv.freeze 0 _ rfl rfl (Nat.le_refl _)).trans (Mv.plain (by rfl) ?_)); (repeat' first | exact True.intro | exact VEq.refl _ | exact EEq.same _ | exact CEq.refl _ | exact VEq.int rfl | apply VEq.tru | apply VEq.fls | apply VEq.bool | apply VEq.int | exact VEq.nill rfl | exact VEq.zl rfl | exact VEq.nil | exact VEq.li_1 | exact VEq.li_2 | exact VEq.li_3 | exact VEq.li_4 | exact VEq.lp_1 | exact VEq.lp_2 | exact VEq.lp_3 | exact VEq.lp_4 | exact VEq.lt_1 | exact VEq.lt_2 | exact VEq.lt_3 | apply VEq.ms | apply VEq.sll | apply VEq.aggs | apply EEq.boxs | apply EEq.app1 | apply EEq.app2 | apply EEq.app3 | apply CEq.ms | apply CEq.int | apply CEq.sll | exact CEq.nill rfl | apply And.intro | exact rfl)
theorem C76 {x z : Int} {l : List Lk} {b : List Rg} : (Ln.mk x z l b).Tight → PFD Try.prog 76 [.agg [int x, int z, trs l], .c (prs b)] (.agg [int (laybk ⟨x, z, l, b⟩).1, int (laybk ⟨x, z, l, b⟩).2]) := fun hT => by
  have hn : 0 < l.length ∧ l.length ≤ 10 := hT.toOk.k.n
  have hbl : b.length = l.length := hT.toOk.b
  have c1 := C128 (b := b) (g := false) (by omega)
  have c2 := C128 (b := b) (g := true) (by omega)
  have c3 := C64 (en_tight (g := false) hT)
  have c4 := C64 (en_tight (g := true) hT)
  have e1 : lbF (opL x z l (enL false b)) = lbF ⟨x, z, l, b⟩ := by funext i; simp only [lbF, en_pl, opL_pz]; rfl
  have e2 : ubF (opL x z l (enL true b)) = ubF ⟨x, z, l, b⟩ := by funext i; simp only [ubF, en_ph, opL_pz]; rfl
  simp only [laybk, e1] at c3
  simp only [laybk, e2] at c4
  show PFD Try.prog 76 [.agg [int x, int z, trs l], .c (prs b)] (.agg [int (sumI (lbF ⟨x, z, l, b⟩) l.length), int (sumI (ubF ⟨x, z, l, b⟩) l.length)])
  change PFD Try.prog 64 _ (.agg [int (sumI (lbF ⟨x, z, l, b⟩) l.length), _]) at c3
  change PFD Try.prog 64 _ (.agg [_, int (sumI (ubF ⟨x, z, l, b⟩) l.length)]) at c4
  generalize sumI (lbF ⟨x, z, l, b⟩) l.length = A at *
  generalize sumI (ubF ⟨x, z, l, b⟩) l.length = B at *
  generalize sumI (ubF (opL x z l (enL false b))) (opL x z l (enL false b)).l.length = A' at *
  generalize sumI (lbF (opL x z l (enL true b))) (opL x z l (enL true b)).l.length = B' at *
  refine PFD.of (vs := [_]) fn76 rfl (by (simp only [cloL, clo, cloC, cloCs, and_self])) ?_
  (repeat' first | (refine Owe.mk ?_ ?_; (· (first | trivial | omega | ((try simp only [R64, true_and, and_true, Int.toNat_natCast, List.length_cons, List.length_nil]); omega)))) | (refine Fork.same ?_; first | refine Fork.dec (fun h => ?_) (fun h => ?_) | refine Fork.ndec (fun h => ?_) (fun h => ?_) | refine Fork.mk (fun h => ?_) (fun h => ?_)) | (refine OpsL.same ?_; first | refine Ops.pc rfl (Fits.eq rfl) c1 rfl ?_ | (refine Ops.pcp rfl (Fits.eq rfl) c1 rfl ?_ ?_; (· (first | trivial | omega | ((try simp only [R64, true_and, and_true, Int.toNat_natCast, List.length_cons, List.length_nil]); omega)))) | refine Ops.pc rfl (Fits.eq rfl) c2 rfl ?_ | (refine Ops.pcp rfl (Fits.eq rfl) c2 rfl ?_ ?_; (· (first | trivial | omega | ((try simp only [R64, true_and, and_true, Int.toNat_natCast, List.length_cons, List.length_nil]); omega)))) | refine Ops.pc rfl (Fits.eq rfl) c3 rfl ?_ | (refine Ops.pcp rfl (Fits.eq rfl) c3 rfl ?_ ?_; (· (first | trivial | omega | ((try simp only [R64, true_and, and_true, Int.toNat_natCast, List.length_cons, List.length_nil]); omega)))) | refine Ops.pc rfl (Fits.eq rfl) c4 rfl ?_ | (refine Ops.pcp rfl (Fits.eq rfl) c4 rfl ?_ ?_; (· (first | trivial | omega | ((try simp only [R64, true_and, and_true, Int.toNat_natCast, List.length_cons, List.length_nil]); omega)))) ) | (refine OpsDL.same ?_; first | refine OpsD.pc rfl (Fits.eq rfl) c1 rfl ?_ | (refine OpsD.pcp rfl (Fits.eq rfl) c1 rfl ?_ ?_; (· (first | trivial | omega | ((try simp only [R64, true_and, and_true, Int.toNat_natCast, List.length_cons, List.length_nil]); omega)))) | refine OpsD.pc rfl (Fits.eq rfl) c2 rfl ?_ | (refine OpsD.pcp rfl (Fits.eq rfl) c2 rfl ?_ ?_; (· (first | trivial | omega | ((try simp only [R64, true_and, and_true, Int.toNat_natCast, List.length_cons, List.length_nil]); omega)))) | refine OpsD.pc rfl (Fits.eq rfl) c3 rfl ?_ | (refine OpsD.pcp rfl (Fits.eq rfl) c3 rfl ?_ ?_; (· (first | trivial | omega | ((try simp only [R64, true_and, and_true, Int.toNat_natCast, List.length_cons, List.length_nil]); omega)))) | refine OpsD.pc rfl (Fits.eq rfl) c4 rfl ?_ | (refine OpsD.pcp rfl (Fits.eq rfl) c4 rfl ?_ ?_; (· (first | trivial | omega | ((try simp only [R64, true_and, and_true, Int.toNat_natCast, List.length_cons, List.length_nil]); omega)))) ) | refine MvQ.stay ?_ | refine Owe.mk ?_ ?_)
  (refine RetQ.plain (Nat.le_refl _) (by first | exact .inr rfl | exact .inl rfl) rfl (by (simp only [cloL, clo, cloC, cloCs, and_self])) ?_; (repeat' first | exact True.intro | exact VEq.refl _ | exact EEq.same _ | exact CEq.refl _ | exact VEq.int rfl | apply VEq.tru | apply VEq.fls | apply VEq.bool | apply VEq.int | exact VEq.nill rfl | exact VEq.zl rfl | exact VEq.nil | exact VEq.li_1 | exact VEq.li_2 | exact VEq.li_3 | exact VEq.li_4 | exact VEq.lp_1 | exact VEq.lp_2 | exact VEq.lp_3 | exact VEq.lp_4 | exact VEq.lt_1 | exact VEq.lt_2 | exact VEq.lt_3 | apply VEq.ms | apply VEq.sll | apply VEq.aggs | apply EEq.boxs | apply EEq.app1 | apply EEq.app2 | apply EEq.app3 | apply CEq.ms | apply CEq.int | apply CEq.sll | exact CEq.nill rfl | apply And.intro | exact rfl))
theorem Ln.Ok.le {L : Ln} (h : L.Ok) : ∀ k : Nat, k ≤ L.l.length → L.pl k ≤ L.ph k
  | 0, _ => Int.le_refl _
  | k + 1, hk => by
    have := h.le k (by omega)
    have h1 := (h.lk (k := k) (by omega)).2.2
    have h2 := (h.rg (k := k) (by omega)).2.2
    have := Int.mul_le_mul_of_nonneg_left h2 h1.1
    show L.pl k + L.d k * L.lo k ≤ L.ph k + L.d k * L.hi k
    omega
theorem nr_sq {p : Rg} (h : p.1 ≤ p.2) : nrI p * nrI p = if p.2 < 0 then p.2 * p.2 else if 0 < p.1 then p.1 * p.1 else 0 := by
  split
  · rw [show nrI p = -p.2 by simp only [nrI]; omega, Int.neg_mul_neg]
  · split
    · rw [show nrI p = p.1 by simp only [nrI]; omega]
    · rw [show nrI p = 0 by simp only [nrI]; omega]; rfl
theorem C75 {x z : Int} {l : List Lk} {b : List Rg} : (Ln.mk x z l b).Ok → PFD Try.prog 75 [.agg [int x, int z, trs l], .c (prs b)] (.c (prs (accL (sbF ⟨x, z, l, b⟩) l.length))) := fun hL => by
  have hn : 0 < l.length ∧ l.length ≤ 10 := hL.k.n
  have c1 := C74 hL
  have c2 : PFD Try.prog 115 [.agg [int x, int z, trs l]] (.c (ints (accL (htF (stl x z l)) l.length))) := C115 hL.k
  have g1 : ∀ k, k < l.length → (accL (plF ⟨x, z, l, b⟩) l.length).getD k (0, 0) = plF ⟨x, z, l, b⟩ k := fun k hk => accL_get _ hk
  have g2 : ∀ k, k < l.length → (accL (htF (stl x z l)) l.length).getD k 0 = (Ln.mk x z l b).pz (k + 1) := fun k hk => by rw [accL_get _ hk, opL_pz]
  have hle : ∀ k, k < l.length → (Ln.mk x z l b).pl (k + 1) ≤ (Ln.mk x z l b).ph (k + 1) := fun k hk => hL.le (k + 1) hk
  have hbd : ∀ k, k < l.length → _ := fun k hk => hL.bd (k + 1) hk
  have l1 := accL_len (plF ⟨x, z, l, b⟩) l.length
  have l2 := accL_len (htF (stl x z l)) l.length
  generalize accL (plF ⟨x, z, l, b⟩) l.length = S at *
  generalize accL (htF (stl x z l)) l.length = T at *
  generalize Ln.mk x z l b = L at *
  refine PFD.of (vs := [_]) fn75 rfl (by (simp only [cloL, clo, cloC, cloCs, and_self])) ?_
  (repeat' first | (refine Owe.mk ?_ ?_; (· (first | trivial | omega | ((try simp only [R64, true_and, and_true, Int.toNat_natCast, List.length_cons, List.length_nil]); omega)))) | (refine Fork.same ?_; first | refine Fork.dec (fun h => ?_) (fun h => ?_) | refine Fork.ndec (fun h => ?_) (fun h => ?_) | refine Fork.mk (fun h => ?_) (fun h => ?_)) | (refine OpsL.same ?_; first | refine Ops.pc rfl (Fits.eq rfl) c1 rfl ?_ | (refine Ops.pcp rfl (Fits.eq rfl) c1 rfl ?_ ?_; (· (first | trivial | omega | ((try simp only [R64, true_and, and_true, Int.toNat_natCast, List.length_cons, List.length_nil]); omega)))) | refine Ops.pc rfl (Fits.eq rfl) c2 rfl ?_ | (refine Ops.pcp rfl (Fits.eq rfl) c2 rfl ?_ ?_; (· (first | trivial | omega | ((try simp only [R64, true_and, and_true, Int.toNat_natCast, List.length_cons, List.length_nil]); omega)))) ) | (refine OpsDL.same ?_; first | refine OpsD.pc rfl (Fits.eq rfl) c1 rfl ?_ | (refine OpsD.pcp rfl (Fits.eq rfl) c1 rfl ?_ ?_; (· (first | trivial | omega | ((try simp only [R64, true_and, and_true, Int.toNat_natCast, List.length_cons, List.length_nil]); omega)))) | refine OpsD.pc rfl (Fits.eq rfl) c2 rfl ?_ | (refine OpsD.pcp rfl (Fits.eq rfl) c2 rfl ?_ ?_; (· (first | trivial | omega | ((try simp only [R64, true_and, and_true, Int.toNat_natCast, List.length_cons, List.length_nil]); omega)))) ) | refine MvQ.stay ?_ | refine Owe.mk ?_ ?_)
  refine Sat.nilS 7 85 2 (fun i => r2 (([] : List Rg).getD i (0, 0))) rfl ?_
  refine Sat.lp (fun k : Nat => ⟨[(8, vi .i64 k), (5, .c (prs S)), (6, .c (ints T)), (7, .c (.ms 1 (accL (sbF L) k).length))], [(1, rowv 85 2 r2 (0, 0) (accL (sbF L) k)), (0, .box [int x, int z, trs l])], 2⟩)
    (fun k => k ≤ l.length) (fun k => l.length - k) 0 [0, 6] (Nat.zero_le _) ?_ ?_
  · refine ⟨rfl, ?_, ?_⟩ <;> (repeat' first | exact True.intro | exact VEq.refl _ | exact EEq.same _ | exact CEq.refl _ | exact VEq.int rfl | apply VEq.tru | apply VEq.fls | apply VEq.bool | apply VEq.int | exact VEq.nill rfl | exact VEq.zl rfl | exact VEq.nil | exact VEq.li_1 | exact VEq.li_2 | exact VEq.li_3 | exact VEq.li_4 | exact VEq.lp_1 | exact VEq.lp_2 | exact VEq.lp_3 | exact VEq.lp_4 | exact VEq.lt_1 | exact VEq.lt_2 | exact VEq.lt_3 | apply VEq.ms | apply VEq.sll | apply VEq.aggs | apply EEq.boxs | apply EEq.app1 | apply EEq.app2 | apply EEq.app3 | apply CEq.ms | apply CEq.int | apply CEq.sll | exact CEq.nill rfl | apply And.intro | exact rfl)
  · intro k hk
    refine Fork.dec (fun hlt => ?_) (fun hlt => ?_)
    · have hlt : k < l.length := by omega
      have hm := accL_len (sbF L) k
      have hs := accL_succ (sbF L) k
      have h1 := g1 k hlt
      have h2 := g2 k hlt
      have h3 := hle k hlt
      have h4 := hbd k hlt
      have q1 : (S.getD k (0, 0)).1 = L.pl (k + 1) := by rw [h1]
      have q2 : (S.getD k (0, 0)).2 = L.ph (k + 1) := by rw [h1]
      rw [← q1, ← q2] at h3
      rw [← q1, ← q2, ← h2] at h4
      have hs : accL (sbF L) (k + 1) = accL (sbF L) k ++ [(nrI (S.getD k (0, 0)) * nrI (S.getD k (0, 0)) + T.getD k 0 * T.getD k 0, frI (S.getD k (0, 0)) * frI (S.getD k (0, 0)) + T.getD k 0 * T.getD k 0)] := by
        rw [hs, h1, h2]
      rw [nr_sq h3, show frI (S.getD k (0, 0)) = max (max (S.getD k (0, 0)).1 (-(S.getD k (0, 0)).1)) (max (S.getD k (0, 0)).2 (-(S.getD k (0, 0)).2)) by simp only [frI]; omega] at hs
      have m1 := mbd (a := (S.getD k (0, 0)).1) (b := (S.getD k (0, 0)).1) (A := 20000) (B := 20000) (by omega) (by omega)
      have m2 := mbd (a := (S.getD k (0, 0)).2) (b := (S.getD k (0, 0)).2) (A := 20000) (B := 20000) (by omega) (by omega)
      have m3 := mbd (a := T.getD k 0) (b := T.getD k 0) (A := 20000) (B := 20000) (by omega) (by omega)
      have m4 := mbd (a := max (max (S.getD k (0, 0)).1 (-(S.getD k (0, 0)).1)) (max (S.getD k (0, 0)).2 (-(S.getD k (0, 0)).2))) (b := max (max (S.getD k (0, 0)).1 (-(S.getD k (0, 0)).1)) (max (S.getD k (0, 0)).2 (-(S.getD k (0, 0)).2))) (A := 20000) (B := 20000) (by omega) (by omega)
      (repeat' first | (refine Owe.mk ?_ ?_; (· (first | trivial | omega | ((try simp only [R64, true_and, and_true, Int.toNat_natCast, List.length_cons, List.length_nil]); omega)))) | (refine Fork.same ?_; first | refine Fork.dec (fun h => ?_) (fun h => ?_) | refine Fork.ndec (fun h => ?_) (fun h => ?_) | refine Fork.mk (fun h => ?_) (fun h => ?_)) | (refine OpsL.same ?_; first | refine Ops.pc rfl (Fits.eq rfl) C20 rfl ?_ | (refine Ops.pcp rfl (Fits.eq rfl) C20 rfl ?_ ?_; (· (first | trivial | omega | ((try simp only [R64, true_and, and_true, Int.toNat_natCast, List.length_cons, List.length_nil]); omega)))) ) | (refine OpsDL.same ?_; first | refine OpsD.pc rfl (Fits.eq rfl) C20 rfl ?_ | (refine OpsD.pcp rfl (Fits.eq rfl) C20 rfl ?_ ?_; (· (first | trivial | omega | ((try simp only [R64, true_and, and_true, Int.toNat_natCast, List.length_cons, List.length_nil]); omega)))) ) | refine MvQ.stay ?_ | refine Owe.mk ?_ ?_)
      · rename_i ha
        have ha : 0 < (S.getD k (0, 0)).1 := ha
        have h : (S.getD k (0, 0)).2 < 0 := h
        exfalso; omega
      · rename_i ha
        have ha : 0 < (S.getD k (0, 0)).1 := ha
        have h : ¬ (S.getD k (0, 0)).2 < 0 := h
        rw [if_neg h, if_pos ha] at hs
        refine again (k + 1) [0, 43] hlt (by omega) ?_
        refine ⟨rfl, ?_, ?_⟩ <;> (repeat' first | exact True.intro | exact VEq.refl _ | exact EEq.same _ | exact CEq.refl _ | exact VEq.int rfl | apply VEq.tru | apply VEq.fls | apply VEq.bool | apply VEq.int | exact VEq.nill rfl | exact VEq.zl rfl | exact VEq.nil | exact VEq.li_1 | exact VEq.li_2 | exact VEq.li_3 | exact VEq.li_4 | exact VEq.lp_1 | exact VEq.lp_2 | exact VEq.lp_3 | exact VEq.lp_4 | exact VEq.lt_1 | exact VEq.lt_2 | exact VEq.lt_3 | apply VEq.ms | apply VEq.sll | apply VEq.aggs | apply EEq.boxs | apply EEq.app1 | apply EEq.app2 | apply EEq.app3 | apply CEq.ms | apply CEq.int | apply CEq.sll | exact CEq.nill rfl | apply And.intro | exact rfl)
        · rw [hs]; simp
        · exact hs
      · rename_i ha
        have ha : ¬ 0 < (S.getD k (0, 0)).1 := ha
        have h : (S.getD k (0, 0)).2 < 0 := h
        rw [if_pos h] at hs
        refine again (k + 1) [0, 43] hlt (by omega) ?_
        refine ⟨rfl, ?_, ?_⟩ <;> (repeat' first | exact True.intro | exact VEq.refl _ | exact EEq.same _ | exact CEq.refl _ | exact VEq.int rfl | apply VEq.tru | apply VEq.fls | apply VEq.bool | apply VEq.int | exact VEq.nill rfl | exact VEq.zl rfl | exact VEq.nil | exact VEq.li_1 | exact VEq.li_2 | exact VEq.li_3 | exact VEq.li_4 | exact VEq.lp_1 | exact VEq.lp_2 | exact VEq.lp_3 | exact VEq.lp_4 | exact VEq.lt_1 | exact VEq.lt_2 | exact VEq.lt_3 | apply VEq.ms | apply VEq.sll | apply VEq.aggs | apply EEq.boxs | apply EEq.app1 | apply EEq.app2 | apply EEq.app3 | apply CEq.ms | apply CEq.int | apply CEq.sll | exact CEq.nill rfl | apply And.intro | exact rfl)
        · rw [hs]; simp
        · exact hs
      · rename_i ha
        have ha : ¬ 0 < (S.getD k (0, 0)).1 := ha
        have h : ¬ (S.getD k (0, 0)).2 < 0 := h
        rw [if_neg h, if_neg ha] at hs
        refine again (k + 1) [0, 43] hlt (by omega) ?_
        refine ⟨rfl, ?_, ?_⟩ <;> (repeat' first | exact True.intro | exact VEq.refl _ | exact EEq.same _ | exact CEq.refl _ | exact VEq.int rfl | apply VEq.tru | apply VEq.fls | apply VEq.bool | apply VEq.int | exact VEq.nill rfl | exact VEq.zl rfl | exact VEq.nil | exact VEq.li_1 | exact VEq.li_2 | exact VEq.li_3 | exact VEq.li_4 | exact VEq.lp_1 | exact VEq.lp_2 | exact VEq.lp_3 | exact VEq.lp_4 | exact VEq.lt_1 | exact VEq.lt_2 | exact VEq.lt_3 | apply VEq.ms | apply VEq.sll | apply VEq.aggs | apply EEq.boxs | apply EEq.app1 | apply EEq.app2 | apply EEq.app3 | apply CEq.ms | apply CEq.int | apply CEq.sll | exact CEq.nill rfl | apply And.intro | exact rfl)
        · rw [hs]; simp
        · exact hs
    · (repeat' first | (refine Owe.mk ?_ ?_; (· (first | trivial | omega | ((try simp only [R64, true_and, and_true, Int.toNat_natCast, List.length_cons, List.length_nil]); omega)))) | (refine Fork.same ?_; first | refine Fork.dec (fun h => ?_) (fun h => ?_) | refine Fork.ndec (fun h => ?_) (fun h => ?_) | refine Fork.mk (fun h => ?_) (fun h => ?_)) | refine MvQ.stay ?_ | refine Owe.mk ?_ ?_)
      have : k = l.length := by omega
      subst this
      refine RetQ.of (by first | exact .inr rfl | exact .inl rfl) rfl rfl ((Mv.freeze 0 _ rfl rfl (Nat.le_refl _)).trans (Mv.plain (by rfl) ?_)); (repeat' first | exact True.intro | exact VEq.refl _ | exact EEq.same _ | exact CEq.refl _ | exact VEq.int rfl | apply VEq.tru | apply VEq.fls | apply VEq.bool | apply VEq.int | exact VEq.nill rfl | exact VEq.zl rfl | exact VEq.nil | exact VEq.li_1 | exact VEq.li_2 | exact VEq.li_3 | exact VEq.li_4 | exact VEq.lp_1 | exact VEq.lp_2 | exact VEq.lp_3 | exact VEq.lp_4 | exact VEq.lt_1 | exact VEq.lt_2 | exact VEq.lt_3 | apply VEq.ms | apply VEq.sll | apply VEq.aggs | apply EEq.boxs | apply EEq.app1 | apply EEq.app2 | apply EEq.app3 | apply CEq.ms | apply CEq.int | apply CEq.sll | exact CEq.nill rfl | apply And.intro | exact rfl)
theorem C77 {F : Int → Int → Int → Rg} (hF : LngOk F) {x z : Int} {l : List Lk} {b : List Rg} : (Ln.mk x z l b).Tight → PFD Try.prog 77 [.agg [int x, int z, trs l], .c (prs b)] (vi .i64 (sumI (enF F ⟨x, z, l, b⟩) l.length)) := fun hT => by
  have hL := hT.toOk
  have hn : 0 < l.length ∧ l.length ≤ 10 := hL.k.n
  have c1 := C74 hL
  have c2 : PFD Try.prog 115 [.agg [int x, int z, trs l]] (.c (ints (accL (htF (stl x z l)) l.length))) := C115 hL.k
  have g1 : ∀ k, k < l.length → (accL (plF ⟨x, z, l, b⟩) l.length).getD k (0, 0) = plF ⟨x, z, l, b⟩ k := fun k hk => accL_get _ hk
  have g2 : ∀ k, k < l.length → (accL (htF (stl x z l)) l.length).getD k 0 = (Ln.mk x z l b).pz (k + 1) := fun k hk => by rw [accL_get _ hk, opL_pz]
  have hle : ∀ k, k < l.length → (Ln.mk x z l b).pl (k + 1) ≤ (Ln.mk x z l b).ph (k + 1) := fun k hk => hL.le (k + 1) hk
  have hbd : ∀ k, k < l.length → _ := fun k hk => hL.bd (k + 1) hk
  have hz : ∀ k, k < l.length → 0 < (Ln.mk x z l b).pz (k + 1) ∧ (Ln.mk x z l b).pz (k + 1) ≤ 20000 := fun k hk => hT.z hk
  have hlk : ∀ k, k < l.length → 1 ≤ (l.getD k (0, 0, 0)).1 ∧ (l.getD k (0, 0, 0)).1 ≤ 1000 := fun k hk => (hL.lk hk).1
  have he : ∀ k, enF F ⟨x, z, l, b⟩ k = (F (l.getD k (0, 0, 0)).1 ((Ln.mk x z l b).pz (k + 1)) (max (-(Ln.mk x z l b).pl (k + 1)) ((Ln.mk x z l b).ph (k + 1)))).2 := fun k => rfl
  have l1 := accL_len (plF ⟨x, z, l, b⟩) l.length
  have l2 := accL_len (htF (stl x z l)) l.length
  generalize accL (plF ⟨x, z, l, b⟩) l.length = S at *
  generalize accL (htF (stl x z l)) l.length = T at *
  generalize hE : enF F ⟨x, z, l, b⟩ = E at *
  clear hE
  generalize Ln.mk x z l b = L at *
  have b0 : ∀ k, k < l.length → -1073741825 ≤ E k ∧ E k ≤ 1073741825 := fun k hk => by
    rw [he k]
    exact (hF.b (hlk k hk) (hz k hk) (by have := hle k hk; have := hbd k hk; omega)).2
  refine PFD.of (vs := [_]) fn77 rfl (by (simp only [cloL, clo, cloC, cloCs, and_self])) ?_
  (repeat' first | (refine Owe.mk ?_ ?_; (· (first | trivial | omega | ((try simp only [R64, true_and, and_true, Int.toNat_natCast, List.length_cons, List.length_nil]); omega)))) | (refine Fork.same ?_; first | refine Fork.dec (fun h => ?_) (fun h => ?_) | refine Fork.ndec (fun h => ?_) (fun h => ?_) | refine Fork.mk (fun h => ?_) (fun h => ?_)) | (refine OpsL.same ?_; first | refine Ops.pc rfl (Fits.eq rfl) c1 rfl ?_ | (refine Ops.pcp rfl (Fits.eq rfl) c1 rfl ?_ ?_; (· (first | trivial | omega | ((try simp only [R64, true_and, and_true, Int.toNat_natCast, List.length_cons, List.length_nil]); omega)))) | refine Ops.pc rfl (Fits.eq rfl) c2 rfl ?_ | (refine Ops.pcp rfl (Fits.eq rfl) c2 rfl ?_ ?_; (· (first | trivial | omega | ((try simp only [R64, true_and, and_true, Int.toNat_natCast, List.length_cons, List.length_nil]); omega)))) ) | (refine OpsDL.same ?_; first | refine OpsD.pc rfl (Fits.eq rfl) c1 rfl ?_ | (refine OpsD.pcp rfl (Fits.eq rfl) c1 rfl ?_ ?_; (· (first | trivial | omega | ((try simp only [R64, true_and, and_true, Int.toNat_natCast, List.length_cons, List.length_nil]); omega)))) | refine OpsD.pc rfl (Fits.eq rfl) c2 rfl ?_ | (refine OpsD.pcp rfl (Fits.eq rfl) c2 rfl ?_ ?_; (· (first | trivial | omega | ((try simp only [R64, true_and, and_true, Int.toNat_natCast, List.length_cons, List.length_nil]); omega)))) ) | refine MvQ.stay ?_ | refine Owe.mk ?_ ?_)
  refine Sat.lp (fun k : Nat => ⟨[(8, vi .i64 k), (5, .c (prs S)), (6, .c (ints T)), (7, vi .i64 (sumI E k)), (2, .c (.bp 0 0))], [(0, .box [int x, int z, trs l])], 1⟩)
    (fun k => k ≤ l.length) (fun k => l.length - k) 0 [0] (Nat.zero_le _) ?_ ?_
  · refine ⟨rfl, ?_, ?_⟩ <;> (repeat' first | exact True.intro | exact VEq.refl _ | exact EEq.same _ | exact CEq.refl _ | exact VEq.int rfl | apply VEq.tru | apply VEq.fls | apply VEq.bool | apply VEq.int | exact VEq.nill rfl | exact VEq.zl rfl | exact VEq.nil | exact VEq.li_1 | exact VEq.li_2 | exact VEq.li_3 | exact VEq.li_4 | exact VEq.lp_1 | exact VEq.lp_2 | exact VEq.lp_3 | exact VEq.lp_4 | exact VEq.lt_1 | exact VEq.lt_2 | exact VEq.lt_3 | apply VEq.ms | apply VEq.sll | apply VEq.aggs | apply EEq.boxs | apply EEq.app1 | apply EEq.app2 | apply EEq.app3 | apply CEq.ms | apply CEq.int | apply CEq.sll | exact CEq.nill rfl | apply And.intro | exact rfl)
  · intro k hk
    refine Fork.dec (fun hlt => ?_) (fun hlt => ?_)
    · have hlt : k < l.length := by omega
      have h1 := g1 k hlt
      have h2 := g2 k hlt
      have h3 := hle k hlt
      have h4 := hbd k hlt
      have h5 := hz k hlt
      have h6 := b0 k hlt
      have h7 := sumI_bd (f := E) (M := 1073741825) (n := l.length) b0 k hk
      have q1 : (S.getD k (0, 0)).1 = L.pl (k + 1) := by rw [h1]
      have q2 : (S.getD k (0, 0)).2 = L.ph (k + 1) := by rw [h1]
      have e0 := he k
      rw [← q1, ← q2, ← h2] at e0
      rw [← q1, ← q2] at h3
      rw [← q1, ← q2, ← h2] at h4
      rw [← h2] at h5
      rw [show max (-(S.getD k (0, 0)).1) (S.getD k (0, 0)).2 = max (max (S.getD k (0, 0)).1 (-(S.getD k (0, 0)).1)) (max (S.getD k (0, 0)).2 (-(S.getD k (0, 0)).2)) by omega] at e0
      have c3 := hF.d (h := (l.getD k (0, 0, 0)).1) (t := (max (max (S.getD k (0, 0)).1 (-(S.getD k (0, 0)).1)) (max (S.getD k (0, 0)).2 (-(S.getD k (0, 0)).2)), T.getD k 0)) ⟨hlk k hlt, by omega, by omega⟩
      dsimp only at c3
      generalize F (l.getD k (0, 0, 0)).1 (T.getD k 0) (max (max (S.getD k (0, 0)).1 (-(S.getD k (0, 0)).1)) (max (S.getD k (0, 0)).2 (-(S.getD k (0, 0)).2))) = f at *
      have e1 : sumI E (k + 1) = sumI E k + E k := rfl
      rw [e0] at e1 h6
      (repeat' first | (refine Owe.mk ?_ ?_; (· (first | trivial | omega | ((try simp only [R64, true_and, and_true, Int.toNat_natCast, List.length_cons, List.length_nil]); omega)))) | (refine Fork.same ?_; first | refine Fork.dec (fun h => ?_) (fun h => ?_) | refine Fork.ndec (fun h => ?_) (fun h => ?_) | refine Fork.mk (fun h => ?_) (fun h => ?_)) | (refine OpsL.same ?_; first | refine Ops.pc rfl (Fits.eq rfl) C20 rfl ?_ | (refine Ops.pcp rfl (Fits.eq rfl) C20 rfl ?_ ?_; (· (first | trivial | omega | ((try simp only [R64, true_and, and_true, Int.toNat_natCast, List.length_cons, List.length_nil]); omega)))) | refine Ops.pc rfl (Fits.eq rfl) c3 rfl ?_ | (refine Ops.pcp rfl (Fits.eq rfl) c3 rfl ?_ ?_; (· (first | trivial | omega | ((try simp only [R64, true_and, and_true, Int.toNat_natCast, List.length_cons, List.length_nil]); omega)))) ) | (refine OpsDL.same ?_; first | refine OpsD.pc rfl (Fits.eq rfl) C20 rfl ?_ | (refine OpsD.pcp rfl (Fits.eq rfl) C20 rfl ?_ ?_; (· (first | trivial | omega | ((try simp only [R64, true_and, and_true, Int.toNat_natCast, List.length_cons, List.length_nil]); omega)))) | refine OpsD.pc rfl (Fits.eq rfl) c3 rfl ?_ | (refine OpsD.pcp rfl (Fits.eq rfl) c3 rfl ?_ ?_; (· (first | trivial | omega | ((try simp only [R64, true_and, and_true, Int.toNat_natCast, List.length_cons, List.length_nil]); omega)))) ) | refine MvQ.stay ?_ | refine Owe.mk ?_ ?_)
      refine again (k + 1) [0] hlt (by omega) ?_
      refine ⟨rfl, ?_, ?_⟩ <;> (repeat' first | exact True.intro | exact VEq.refl _ | exact EEq.same _ | exact CEq.refl _ | exact VEq.int rfl | apply VEq.tru | apply VEq.fls | apply VEq.bool | apply VEq.int | exact VEq.nill rfl | exact VEq.zl rfl | exact VEq.nil | exact VEq.li_1 | exact VEq.li_2 | exact VEq.li_3 | exact VEq.li_4 | exact VEq.lp_1 | exact VEq.lp_2 | exact VEq.lp_3 | exact VEq.lp_4 | exact VEq.lt_1 | exact VEq.lt_2 | exact VEq.lt_3 | apply VEq.ms | apply VEq.sll | apply VEq.aggs | apply EEq.boxs | apply EEq.app1 | apply EEq.app2 | apply EEq.app3 | apply CEq.ms | apply CEq.int | apply CEq.sll | exact CEq.nill rfl | apply And.intro | exact rfl)
      exact e1.symm
    · (repeat' first | (refine Owe.mk ?_ ?_; (· (first | trivial | omega | ((try simp only [R64, true_and, and_true, Int.toNat_natCast, List.length_cons, List.length_nil]); omega)))) | (refine Fork.same ?_; first | refine Fork.dec (fun h => ?_) (fun h => ?_) | refine Fork.ndec (fun h => ?_) (fun h => ?_) | refine Fork.mk (fun h => ?_) (fun h => ?_)) | refine MvQ.stay ?_ | refine Owe.mk ?_ ?_)
      have : k = l.length := by omega
      subst this
      (refine RetQ.plain (Nat.le_refl _) (by first | exact .inr rfl | exact .inl rfl) rfl (by (simp only [cloL, clo, cloC, cloCs, and_self])) ?_; (repeat' first | exact True.intro | exact VEq.refl _ | exact EEq.same _ | exact CEq.refl _ | exact VEq.int rfl | apply VEq.tru | apply VEq.fls | apply VEq.bool | apply VEq.int | exact VEq.nill rfl | exact VEq.zl rfl | exact VEq.nil | exact VEq.li_1 | exact VEq.li_2 | exact VEq.li_3 | exact VEq.li_4 | exact VEq.lp_1 | exact VEq.lp_2 | exact VEq.lp_3 | exact VEq.lp_4 | exact VEq.lt_1 | exact VEq.lt_2 | exact VEq.lt_3 | apply VEq.ms | apply VEq.sll | apply VEq.aggs | apply EEq.boxs | apply EEq.app1 | apply EEq.app2 | apply EEq.app3 | apply CEq.ms | apply CEq.int | apply CEq.sll | exact CEq.nill rfl | apply And.intro | exact rfl))
end Go.Pw

set_option linter.unusedSimpArgs false
namespace Go.Pw
open Go Go.Proofs
theorem lb_err {x z : Int} {l : List Lk} {b : List Rg} : (lbE x z l b).2 = if (lineE x z l).2 = 0 then (boxE l.length b).2 else (lineE x z l).2 := by
  unfold lbE; split <;> rfl
theorem boxes_err {x z : Int} {l : List Lk} {b : List Rg} {e : Int} (hl : l.length ≤ 1000000 ∧ b.length ≤ 1000000) (h : (lbE x z l b).2 = e) (h0 : e ≠ 0) :
    PFD Try.prog 68 [.agg [int x, int z, trs l], .c (prs b)] (.tup [.c (prs []), vi .i64 e]) ∧
    PFD Try.prog 69 [.agg [int x, int z, trs l], .c (prs b)] (.tup [.c (prs []), vi .i64 e]) := by
  have c1 := C68 (x := x) (z := z) (l := l) (b := b) hl
  have c2 := C69 (x := x) (z := z) (l := l) (b := b) hl
  rw [h, orE, if_neg h0] at c1 c2
  exact ⟨c1, c2⟩
theorem over_err {x z : Int} {l : List Lk} {b : List Rg} {e : Int} (hl : l.length ≤ 1000000 ∧ b.length ≤ 1000000) (h : tgE (opb x z l b) = e) (h0 : e ≠ 0) :
    PFD Try.prog 70 [.agg [int x, int z, trs l], .c (prs b)] (.tup [.agg [int 0, int 0], vi .i64 e]) ∧
    PFD Try.prog 71 [.agg [int x, int z, trs l], .c (prs b)] (.tup [vi .i64 0, vi .i64 e]) := by
  have c1 := C70 (x := x) (z := z) (l := l) (b := b) hl
  have c2 := C71 lenF_ok (x := x) (z := z) (l := l) (b := b) hl
  rw [h, orP, if_neg h0] at c1
  rw [h, if_neg h0] at c2
  exact ⟨c1, c2⟩
set_option maxHeartbeats 8000000 in
theorem C10 {x z : Int} {l : List Lk} {b : List Rg} : PFD Try.prog 10 [.agg [int x, int z, trs l], .c (prs b)] (vbl true) := by
  by_cases hf : l.length ≤ 12 ∧ (b.length : Int) ≤ 14
  · have hlc : l.length ≤ 1000000 ∧ b.length ≤ 1000000 := by omega
    have c1 := C35 (x := x) (z := z) (l := l) (by omega)
    have c2 := C72 (x := x) (z := z) (l := l) (b := b) (by omega)
    have ho := lb_err (x := x) (z := z) (l := l) (b := b)
    by_cases h0 : (lineE x z l).2 = 0
    · rw [if_pos h0] at ho
      rw [h0] at c1
      by_cases h1 : (boxE l.length b).2 = 0
      · rw [h1] at ho c2
        have hL : (Ln.mk x z l b).Ok := lbE_ok ho
        have d1 := C68 (x := x) (z := z) (l := l) (b := b) hlc
        have d2 := C69 (x := x) (z := z) (l := l) (b := b) hlc
        rw [ho, orE, if_pos rfl] at d1 d2
        have e1 := C74 hL
        have e2 := C75 hL
        have c3 : PFD Try.prog 60 [.agg [int x, int z, trs l]] (vi .i64 (slkN x z l)) := C60 hL.k
        have he : tgE (opb x z l b) = slkN x z l := by
          rw [tgE, if_pos ho]; exact slk_eq
        have hn : 0 < l.length ∧ l.length ≤ 10 := hL.k.n
        have hP := accL_len (plF ⟨x, z, l, b⟩) l.length
        have hS := accL_len (sbF ⟨x, z, l, b⟩) l.length
        by_cases h2 : slkN x z l = 0
        · have hT : (Ln.mk x z l b).Tight := tgE_ok (o := opb x z l b) (by rw [he, h2]) fun h => lbE_ok h
          rw [h2] at c3 he
          have d3 := C70 (x := x) (z := z) (l := l) (b := b) hlc
          have d4 := C71 lenF_ok (x := x) (z := z) (l := l) (b := b) hlc
          rw [he, orP, if_pos rfl] at d3
          rw [he, if_pos rfl] at d4
          have e3 := C76 hT
          have e4 := C77 lenF_ng hT
          change PFD Try.prog 71 _ (.tup [vi .i64 (sumI (enF lenF ⟨x, z, l, b⟩) l.length), _]) at d4
          change PFD Try.prog 70 _ (.tup [.agg [int (laybk ⟨x, z, l, b⟩).1, int (laybk ⟨x, z, l, b⟩).2], _]) at d3
          generalize sumI (enF lenF ⟨x, z, l, b⟩) l.length = N at *
          generalize laybk ⟨x, z, l, b⟩ = R at *
          generalize accL (plF ⟨x, z, l, b⟩) l.length = P at *
          generalize accL (sbF ⟨x, z, l, b⟩) l.length = S at *
          have c4 := C73 (l := P) (m := P) (by omega)
          have c5 := C73 (l := S) (m := S) (by omega)
          rw [decide_eq_true rfl] at c4 c5
          refine PFD.of (vs := [_]) fn10 rfl (by (simp only [cloL, clo, cloC, cloCs, and_self])) ?_
          (repeat' first | (refine Owe.mk ?_ ?_; (· (first | trivial | omega | ((try simp only [R64, true_and, and_true, Int.toNat_natCast, List.length_cons, List.length_nil]); omega)))) | (refine Fork.same ?_; first | (refine Fork.yes ?_ ?_; (· first | exact rfl | (refine decide_eq_true ?_; omega) | (refine nd_t ?_; omega) | (simp only [decide_true, Bool.and_self, Bool.not_false]))) | (refine Fork.no ?_ ?_; (· first | exact rfl | (refine decide_eq_false ?_; omega) | (refine nd_f ?_; omega) | (simp only [decide_true, Bool.and_self, Bool.not_true]))) | refine Fork.dec (fun h => ?_) (fun h => ?_) | refine Fork.ndec (fun h => ?_) (fun h => ?_) | refine Fork.mk (fun h => ?_) (fun h => ?_)) | (refine OpsL.same ?_; first | refine Ops.pc rfl (Fits.eq rfl) C15 rfl ?_ | (refine Ops.pcp rfl (Fits.eq rfl) C15 rfl ?_ ?_; (· (first | trivial | omega | ((try simp only [R64, true_and, and_true, Int.toNat_natCast, List.length_cons, List.length_nil]); omega)))) | refine Ops.pc rfl (Fits.eq rfl) C28 rfl ?_ | (refine Ops.pcp rfl (Fits.eq rfl) C28 rfl ?_ ?_; (· (first | trivial | omega | ((try simp only [R64, true_and, and_true, Int.toNat_natCast, List.length_cons, List.length_nil]); omega)))) | refine Ops.pc rfl (Fits.eq rfl) C30 rfl ?_ | (refine Ops.pcp rfl (Fits.eq rfl) C30 rfl ?_ ?_; (· (first | trivial | omega | ((try simp only [R64, true_and, and_true, Int.toNat_natCast, List.length_cons, List.length_nil]); omega)))) | refine Ops.pc rfl (Fits.eq rfl) C48 rfl ?_ | (refine Ops.pcp rfl (Fits.eq rfl) C48 rfl ?_ ?_; (· (first | trivial | omega | ((try simp only [R64, true_and, and_true, Int.toNat_natCast, List.length_cons, List.length_nil]); omega)))) | refine Ops.pc rfl (Fits.eq rfl) c1 rfl ?_ | (refine Ops.pcp rfl (Fits.eq rfl) c1 rfl ?_ ?_; (· (first | trivial | omega | ((try simp only [R64, true_and, and_true, Int.toNat_natCast, List.length_cons, List.length_nil]); omega)))) | refine Ops.pc rfl (Fits.eq rfl) c2 rfl ?_ | (refine Ops.pcp rfl (Fits.eq rfl) c2 rfl ?_ ?_; (· (first | trivial | omega | ((try simp only [R64, true_and, and_true, Int.toNat_natCast, List.length_cons, List.length_nil]); omega)))) | refine Ops.pc rfl (Fits.eq rfl) c3 rfl ?_ | (refine Ops.pcp rfl (Fits.eq rfl) c3 rfl ?_ ?_; (· (first | trivial | omega | ((try simp only [R64, true_and, and_true, Int.toNat_natCast, List.length_cons, List.length_nil]); omega)))) | refine Ops.pc rfl (Fits.eq rfl) c4 rfl ?_ | (refine Ops.pcp rfl (Fits.eq rfl) c4 rfl ?_ ?_; (· (first | trivial | omega | ((try simp only [R64, true_and, and_true, Int.toNat_natCast, List.length_cons, List.length_nil]); omega)))) | refine Ops.pc rfl (Fits.eq rfl) c5 rfl ?_ | (refine Ops.pcp rfl (Fits.eq rfl) c5 rfl ?_ ?_; (· (first | trivial | omega | ((try simp only [R64, true_and, and_true, Int.toNat_natCast, List.length_cons, List.length_nil]); omega)))) | refine Ops.pc rfl (Fits.eq rfl) d1 rfl ?_ | (refine Ops.pcp rfl (Fits.eq rfl) d1 rfl ?_ ?_; (· (first | trivial | omega | ((try simp only [R64, true_and, and_true, Int.toNat_natCast, List.length_cons, List.length_nil]); omega)))) | refine Ops.pc rfl (Fits.eq rfl) d2 rfl ?_ | (refine Ops.pcp rfl (Fits.eq rfl) d2 rfl ?_ ?_; (· (first | trivial | omega | ((try simp only [R64, true_and, and_true, Int.toNat_natCast, List.length_cons, List.length_nil]); omega)))) | refine Ops.pc rfl (Fits.eq rfl) d3 rfl ?_ | (refine Ops.pcp rfl (Fits.eq rfl) d3 rfl ?_ ?_; (· (first | trivial | omega | ((try simp only [R64, true_and, and_true, Int.toNat_natCast, List.length_cons, List.length_nil]); omega)))) | refine Ops.pc rfl (Fits.eq rfl) d4 rfl ?_ | (refine Ops.pcp rfl (Fits.eq rfl) d4 rfl ?_ ?_; (· (first | trivial | omega | ((try simp only [R64, true_and, and_true, Int.toNat_natCast, List.length_cons, List.length_nil]); omega)))) | refine Ops.pc rfl (Fits.eq rfl) e1 rfl ?_ | (refine Ops.pcp rfl (Fits.eq rfl) e1 rfl ?_ ?_; (· (first | trivial | omega | ((try simp only [R64, true_and, and_true, Int.toNat_natCast, List.length_cons, List.length_nil]); omega)))) | refine Ops.pc rfl (Fits.eq rfl) e2 rfl ?_ | (refine Ops.pcp rfl (Fits.eq rfl) e2 rfl ?_ ?_; (· (first | trivial | omega | ((try simp only [R64, true_and, and_true, Int.toNat_natCast, List.length_cons, List.length_nil]); omega)))) | refine Ops.pc rfl (Fits.eq rfl) e3 rfl ?_ | (refine Ops.pcp rfl (Fits.eq rfl) e3 rfl ?_ ?_; (· (first | trivial | omega | ((try simp only [R64, true_and, and_true, Int.toNat_natCast, List.length_cons, List.length_nil]); omega)))) | refine Ops.pc rfl (Fits.eq rfl) e4 rfl ?_ | (refine Ops.pcp rfl (Fits.eq rfl) e4 rfl ?_ ?_; (· (first | trivial | omega | ((try simp only [R64, true_and, and_true, Int.toNat_natCast, List.length_cons, List.length_nil]); omega)))) ) | (refine OpsDL.same ?_; first | refine OpsD.pc rfl (Fits.eq rfl) C15 rfl ?_ | (refine OpsD.pcp rfl (Fits.eq rfl) C15 rfl ?_ ?_; (· (first | trivial | omega | ((try simp only [R64, true_and, and_true, Int.toNat_natCast, List.length_cons, List.length_nil]); omega)))) | refine OpsD.pc rfl (Fits.eq rfl) C28 rfl ?_ | (refine OpsD.pcp rfl (Fits.eq rfl) C28 rfl ?_ ?_; (· (first | trivial | omega | ((try simp only [R64, true_and, and_true, Int.toNat_natCast, List.length_cons, List.length_nil]); omega)))) | refine OpsD.pc rfl (Fits.eq rfl) C30 rfl ?_ | (refine OpsD.pcp rfl (Fits.eq rfl) C30 rfl ?_ ?_; (· (first | trivial | omega | ((try simp only [R64, true_and, and_true, Int.toNat_natCast, List.length_cons, List.length_nil]); omega)))) | refine OpsD.pc rfl (Fits.eq rfl) C48 rfl ?_ | (refine OpsD.pcp rfl (Fits.eq rfl) C48 rfl ?_ ?_; (· (first | trivial | omega | ((try simp only [R64, true_and, and_true, Int.toNat_natCast, List.length_cons, List.length_nil]); omega)))) | refine OpsD.pc rfl (Fits.eq rfl) c1 rfl ?_ | (refine OpsD.pcp rfl (Fits.eq rfl) c1 rfl ?_ ?_; (· (first | trivial | omega | ((try simp only [R64, true_and, and_true, Int.toNat_natCast, List.length_cons, List.length_nil]); omega)))) | refine OpsD.pc rfl (Fits.eq rfl) c2 rfl ?_ | (refine OpsD.pcp rfl (Fits.eq rfl) c2 rfl ?_ ?_; (· (first | trivial | omega | ((try simp only [R64, true_and, and_true, Int.toNat_natCast, List.length_cons, List.length_nil]); omega)))) | refine OpsD.pc rfl (Fits.eq rfl) c3 rfl ?_ | (refine OpsD.pcp rfl (Fits.eq rfl) c3 rfl ?_ ?_; (· (first | trivial | omega | ((try simp only [R64, true_and, and_true, Int.toNat_natCast, List.length_cons, List.length_nil]); omega)))) | refine OpsD.pc rfl (Fits.eq rfl) c4 rfl ?_ | (refine OpsD.pcp rfl (Fits.eq rfl) c4 rfl ?_ ?_; (· (first | trivial | omega | ((try simp only [R64, true_and, and_true, Int.toNat_natCast, List.length_cons, List.length_nil]); omega)))) | refine OpsD.pc rfl (Fits.eq rfl) c5 rfl ?_ | (refine OpsD.pcp rfl (Fits.eq rfl) c5 rfl ?_ ?_; (· (first | trivial | omega | ((try simp only [R64, true_and, and_true, Int.toNat_natCast, List.length_cons, List.length_nil]); omega)))) | refine OpsD.pc rfl (Fits.eq rfl) d1 rfl ?_ | (refine OpsD.pcp rfl (Fits.eq rfl) d1 rfl ?_ ?_; (· (first | trivial | omega | ((try simp only [R64, true_and, and_true, Int.toNat_natCast, List.length_cons, List.length_nil]); omega)))) | refine OpsD.pc rfl (Fits.eq rfl) d2 rfl ?_ | (refine OpsD.pcp rfl (Fits.eq rfl) d2 rfl ?_ ?_; (· (first | trivial | omega | ((try simp only [R64, true_and, and_true, Int.toNat_natCast, List.length_cons, List.length_nil]); omega)))) | refine OpsD.pc rfl (Fits.eq rfl) d3 rfl ?_ | (refine OpsD.pcp rfl (Fits.eq rfl) d3 rfl ?_ ?_; (· (first | trivial | omega | ((try simp only [R64, true_and, and_true, Int.toNat_natCast, List.length_cons, List.length_nil]); omega)))) | refine OpsD.pc rfl (Fits.eq rfl) d4 rfl ?_ | (refine OpsD.pcp rfl (Fits.eq rfl) d4 rfl ?_ ?_; (· (first | trivial | omega | ((try simp only [R64, true_and, and_true, Int.toNat_natCast, List.length_cons, List.length_nil]); omega)))) | refine OpsD.pc rfl (Fits.eq rfl) e1 rfl ?_ | (refine OpsD.pcp rfl (Fits.eq rfl) e1 rfl ?_ ?_; (· (first | trivial | omega | ((try simp only [R64, true_and, and_true, Int.toNat_natCast, List.length_cons, List.length_nil]); omega)))) | refine OpsD.pc rfl (Fits.eq rfl) e2 rfl ?_ | (refine OpsD.pcp rfl (Fits.eq rfl) e2 rfl ?_ ?_; (· (first | trivial | omega | ((try simp only [R64, true_and, and_true, Int.toNat_natCast, List.length_cons, List.length_nil]); omega)))) | refine OpsD.pc rfl (Fits.eq rfl) e3 rfl ?_ | (refine OpsD.pcp rfl (Fits.eq rfl) e3 rfl ?_ ?_; (· (first | trivial | omega | ((try simp only [R64, true_and, and_true, Int.toNat_natCast, List.length_cons, List.length_nil]); omega)))) | refine OpsD.pc rfl (Fits.eq rfl) e4 rfl ?_ | (refine OpsD.pcp rfl (Fits.eq rfl) e4 rfl ?_ ?_; (· (first | trivial | omega | ((try simp only [R64, true_and, and_true, Int.toNat_natCast, List.length_cons, List.length_nil]); omega)))) ) | refine MvQ.stay ?_ | refine Owe.mk ?_ ?_)
          all_goals (refine RetQ.plain (Nat.le_refl _) (by first | exact .inr rfl | exact .inl rfl) rfl (by (simp only [cloL, clo, cloC, cloCs, and_self])) ?_; (repeat' first | exact True.intro | exact VEq.refl _ | exact EEq.same _ | exact CEq.refl _ | exact VEq.int rfl | apply VEq.tru | apply VEq.fls | apply VEq.bool | apply VEq.int | exact VEq.nill rfl | exact VEq.zl rfl | exact VEq.nil | exact VEq.li_1 | exact VEq.li_2 | exact VEq.li_3 | exact VEq.li_4 | exact VEq.lp_1 | exact VEq.lp_2 | exact VEq.lp_3 | exact VEq.lp_4 | exact VEq.lt_1 | exact VEq.lt_2 | exact VEq.lt_3 | apply VEq.ms | apply VEq.sll | apply VEq.aggs | apply EEq.boxs | apply EEq.app1 | apply EEq.app2 | apply EEq.app3 | apply CEq.ms | apply CEq.int | apply CEq.sll | exact CEq.nill rfl | apply And.intro | exact rfl))
          simp
        · obtain ⟨d3, d4⟩ := over_err hlc he h2
          generalize accL (plF ⟨x, z, l, b⟩) l.length = P at *
          generalize accL (sbF ⟨x, z, l, b⟩) l.length = S at *
          have c4 := C73 (l := P) (m := P) (by omega)
          have c5 := C73 (l := S) (m := S) (by omega)
          rw [decide_eq_true rfl] at c4 c5
          refine PFD.of (vs := [_]) fn10 rfl (by (simp only [cloL, clo, cloC, cloCs, and_self])) ?_
          (repeat' first | (refine Owe.mk ?_ ?_; (· (first | trivial | omega | ((try simp only [R64, true_and, and_true, Int.toNat_natCast, List.length_cons, List.length_nil]); omega)))) | (refine Fork.same ?_; first | (refine Fork.yes ?_ ?_; (· first | exact rfl | (refine decide_eq_true ?_; omega) | (refine nd_t ?_; omega) | (simp only [decide_true, Bool.and_self, Bool.not_false]))) | (refine Fork.no ?_ ?_; (· first | exact rfl | (refine decide_eq_false ?_; omega) | (refine nd_f ?_; omega) | (simp only [decide_true, Bool.and_self, Bool.not_true]))) | refine Fork.dec (fun h => ?_) (fun h => ?_) | refine Fork.ndec (fun h => ?_) (fun h => ?_) | refine Fork.mk (fun h => ?_) (fun h => ?_)) | (refine OpsL.same ?_; first | refine Ops.pc rfl (Fits.eq rfl) C15 rfl ?_ | (refine Ops.pcp rfl (Fits.eq rfl) C15 rfl ?_ ?_; (· (first | trivial | omega | ((try simp only [R64, true_and, and_true, Int.toNat_natCast, List.length_cons, List.length_nil]); omega)))) | refine Ops.pc rfl (Fits.eq rfl) C28 rfl ?_ | (refine Ops.pcp rfl (Fits.eq rfl) C28 rfl ?_ ?_; (· (first | trivial | omega | ((try simp only [R64, true_and, and_true, Int.toNat_natCast, List.length_cons, List.length_nil]); omega)))) | refine Ops.pc rfl (Fits.eq rfl) C30 rfl ?_ | (refine Ops.pcp rfl (Fits.eq rfl) C30 rfl ?_ ?_; (· (first | trivial | omega | ((try simp only [R64, true_and, and_true, Int.toNat_natCast, List.length_cons, List.length_nil]); omega)))) | refine Ops.pc rfl (Fits.eq rfl) C48 rfl ?_ | (refine Ops.pcp rfl (Fits.eq rfl) C48 rfl ?_ ?_; (· (first | trivial | omega | ((try simp only [R64, true_and, and_true, Int.toNat_natCast, List.length_cons, List.length_nil]); omega)))) | refine Ops.pc rfl (Fits.eq rfl) c1 rfl ?_ | (refine Ops.pcp rfl (Fits.eq rfl) c1 rfl ?_ ?_; (· (first | trivial | omega | ((try simp only [R64, true_and, and_true, Int.toNat_natCast, List.length_cons, List.length_nil]); omega)))) | refine Ops.pc rfl (Fits.eq rfl) c2 rfl ?_ | (refine Ops.pcp rfl (Fits.eq rfl) c2 rfl ?_ ?_; (· (first | trivial | omega | ((try simp only [R64, true_and, and_true, Int.toNat_natCast, List.length_cons, List.length_nil]); omega)))) | refine Ops.pc rfl (Fits.eq rfl) c3 rfl ?_ | (refine Ops.pcp rfl (Fits.eq rfl) c3 rfl ?_ ?_; (· (first | trivial | omega | ((try simp only [R64, true_and, and_true, Int.toNat_natCast, List.length_cons, List.length_nil]); omega)))) | refine Ops.pc rfl (Fits.eq rfl) c4 rfl ?_ | (refine Ops.pcp rfl (Fits.eq rfl) c4 rfl ?_ ?_; (· (first | trivial | omega | ((try simp only [R64, true_and, and_true, Int.toNat_natCast, List.length_cons, List.length_nil]); omega)))) | refine Ops.pc rfl (Fits.eq rfl) c5 rfl ?_ | (refine Ops.pcp rfl (Fits.eq rfl) c5 rfl ?_ ?_; (· (first | trivial | omega | ((try simp only [R64, true_and, and_true, Int.toNat_natCast, List.length_cons, List.length_nil]); omega)))) | refine Ops.pc rfl (Fits.eq rfl) d1 rfl ?_ | (refine Ops.pcp rfl (Fits.eq rfl) d1 rfl ?_ ?_; (· (first | trivial | omega | ((try simp only [R64, true_and, and_true, Int.toNat_natCast, List.length_cons, List.length_nil]); omega)))) | refine Ops.pc rfl (Fits.eq rfl) d2 rfl ?_ | (refine Ops.pcp rfl (Fits.eq rfl) d2 rfl ?_ ?_; (· (first | trivial | omega | ((try simp only [R64, true_and, and_true, Int.toNat_natCast, List.length_cons, List.length_nil]); omega)))) | refine Ops.pc rfl (Fits.eq rfl) d3 rfl ?_ | (refine Ops.pcp rfl (Fits.eq rfl) d3 rfl ?_ ?_; (· (first | trivial | omega | ((try simp only [R64, true_and, and_true, Int.toNat_natCast, List.length_cons, List.length_nil]); omega)))) | refine Ops.pc rfl (Fits.eq rfl) d4 rfl ?_ | (refine Ops.pcp rfl (Fits.eq rfl) d4 rfl ?_ ?_; (· (first | trivial | omega | ((try simp only [R64, true_and, and_true, Int.toNat_natCast, List.length_cons, List.length_nil]); omega)))) | refine Ops.pc rfl (Fits.eq rfl) e1 rfl ?_ | (refine Ops.pcp rfl (Fits.eq rfl) e1 rfl ?_ ?_; (· (first | trivial | omega | ((try simp only [R64, true_and, and_true, Int.toNat_natCast, List.length_cons, List.length_nil]); omega)))) | refine Ops.pc rfl (Fits.eq rfl) e2 rfl ?_ | (refine Ops.pcp rfl (Fits.eq rfl) e2 rfl ?_ ?_; (· (first | trivial | omega | ((try simp only [R64, true_and, and_true, Int.toNat_natCast, List.length_cons, List.length_nil]); omega)))) ) | (refine OpsDL.same ?_; first | refine OpsD.pc rfl (Fits.eq rfl) C15 rfl ?_ | (refine OpsD.pcp rfl (Fits.eq rfl) C15 rfl ?_ ?_; (· (first | trivial | omega | ((try simp only [R64, true_and, and_true, Int.toNat_natCast, List.length_cons, List.length_nil]); omega)))) | refine OpsD.pc rfl (Fits.eq rfl) C28 rfl ?_ | (refine OpsD.pcp rfl (Fits.eq rfl) C28 rfl ?_ ?_; (· (first | trivial | omega | ((try simp only [R64, true_and, and_true, Int.toNat_natCast, List.length_cons, List.length_nil]); omega)))) | refine OpsD.pc rfl (Fits.eq rfl) C30 rfl ?_ | (refine OpsD.pcp rfl (Fits.eq rfl) C30 rfl ?_ ?_; (· (first | trivial | omega | ((try simp only [R64, true_and, and_true, Int.toNat_natCast, List.length_cons, List.length_nil]); omega)))) | refine OpsD.pc rfl (Fits.eq rfl) C48 rfl ?_ | (refine OpsD.pcp rfl (Fits.eq rfl) C48 rfl ?_ ?_; (· (first | trivial | omega | ((try simp only [R64, true_and, and_true, Int.toNat_natCast, List.length_cons, List.length_nil]); omega)))) | refine OpsD.pc rfl (Fits.eq rfl) c1 rfl ?_ | (refine OpsD.pcp rfl (Fits.eq rfl) c1 rfl ?_ ?_; (· (first | trivial | omega | ((try simp only [R64, true_and, and_true, Int.toNat_natCast, List.length_cons, List.length_nil]); omega)))) | refine OpsD.pc rfl (Fits.eq rfl) c2 rfl ?_ | (refine OpsD.pcp rfl (Fits.eq rfl) c2 rfl ?_ ?_; (· (first | trivial | omega | ((try simp only [R64, true_and, and_true, Int.toNat_natCast, List.length_cons, List.length_nil]); omega)))) | refine OpsD.pc rfl (Fits.eq rfl) c3 rfl ?_ | (refine OpsD.pcp rfl (Fits.eq rfl) c3 rfl ?_ ?_; (· (first | trivial | omega | ((try simp only [R64, true_and, and_true, Int.toNat_natCast, List.length_cons, List.length_nil]); omega)))) | refine OpsD.pc rfl (Fits.eq rfl) c4 rfl ?_ | (refine OpsD.pcp rfl (Fits.eq rfl) c4 rfl ?_ ?_; (· (first | trivial | omega | ((try simp only [R64, true_and, and_true, Int.toNat_natCast, List.length_cons, List.length_nil]); omega)))) | refine OpsD.pc rfl (Fits.eq rfl) c5 rfl ?_ | (refine OpsD.pcp rfl (Fits.eq rfl) c5 rfl ?_ ?_; (· (first | trivial | omega | ((try simp only [R64, true_and, and_true, Int.toNat_natCast, List.length_cons, List.length_nil]); omega)))) | refine OpsD.pc rfl (Fits.eq rfl) d1 rfl ?_ | (refine OpsD.pcp rfl (Fits.eq rfl) d1 rfl ?_ ?_; (· (first | trivial | omega | ((try simp only [R64, true_and, and_true, Int.toNat_natCast, List.length_cons, List.length_nil]); omega)))) | refine OpsD.pc rfl (Fits.eq rfl) d2 rfl ?_ | (refine OpsD.pcp rfl (Fits.eq rfl) d2 rfl ?_ ?_; (· (first | trivial | omega | ((try simp only [R64, true_and, and_true, Int.toNat_natCast, List.length_cons, List.length_nil]); omega)))) | refine OpsD.pc rfl (Fits.eq rfl) d3 rfl ?_ | (refine OpsD.pcp rfl (Fits.eq rfl) d3 rfl ?_ ?_; (· (first | trivial | omega | ((try simp only [R64, true_and, and_true, Int.toNat_natCast, List.length_cons, List.length_nil]); omega)))) | refine OpsD.pc rfl (Fits.eq rfl) d4 rfl ?_ | (refine OpsD.pcp rfl (Fits.eq rfl) d4 rfl ?_ ?_; (· (first | trivial | omega | ((try simp only [R64, true_and, and_true, Int.toNat_natCast, List.length_cons, List.length_nil]); omega)))) | refine OpsD.pc rfl (Fits.eq rfl) e1 rfl ?_ | (refine OpsD.pcp rfl (Fits.eq rfl) e1 rfl ?_ ?_; (· (first | trivial | omega | ((try simp only [R64, true_and, and_true, Int.toNat_natCast, List.length_cons, List.length_nil]); omega)))) | refine OpsD.pc rfl (Fits.eq rfl) e2 rfl ?_ | (refine OpsD.pcp rfl (Fits.eq rfl) e2 rfl ?_ ?_; (· (first | trivial | omega | ((try simp only [R64, true_and, and_true, Int.toNat_natCast, List.length_cons, List.length_nil]); omega)))) ) | refine MvQ.stay ?_ | refine Owe.mk ?_ ?_)
          all_goals (refine RetQ.plain (Nat.le_refl _) (by first | exact .inr rfl | exact .inl rfl) rfl (by (simp only [cloL, clo, cloC, cloCs, and_self])) ?_; (repeat' first | exact True.intro | exact VEq.refl _ | exact EEq.same _ | exact CEq.refl _ | exact VEq.int rfl | apply VEq.tru | apply VEq.fls | apply VEq.bool | apply VEq.int | exact VEq.nill rfl | exact VEq.zl rfl | exact VEq.nil | exact VEq.li_1 | exact VEq.li_2 | exact VEq.li_3 | exact VEq.li_4 | exact VEq.lp_1 | exact VEq.lp_2 | exact VEq.lp_3 | exact VEq.lp_4 | exact VEq.lt_1 | exact VEq.lt_2 | exact VEq.lt_3 | apply VEq.ms | apply VEq.sll | apply VEq.aggs | apply EEq.boxs | apply EEq.app1 | apply EEq.app2 | apply EEq.app3 | apply CEq.ms | apply CEq.int | apply CEq.sll | exact CEq.nill rfl | apply And.intro | exact rfl))
      · obtain ⟨d1, d2⟩ := boxes_err hlc ho h1
        obtain ⟨d3, d4⟩ := over_err hlc (show tgE (opb x z l b) = (boxE l.length b).2 by rw [tgE, ho, if_neg h1]) h1
        refine PFD.of (vs := [_]) fn10 rfl (by (simp only [cloL, clo, cloC, cloCs, and_self])) ?_
        (repeat' first | (refine Owe.mk ?_ ?_; (· (first | trivial | omega | ((try simp only [R64, true_and, and_true, Int.toNat_natCast, List.length_cons, List.length_nil]); omega)))) | (refine Fork.same ?_; first | (refine Fork.yes ?_ ?_; (· first | exact rfl | (refine decide_eq_true ?_; omega) | (refine nd_t ?_; omega) | (simp only [decide_true, Bool.and_self, Bool.not_false]))) | (refine Fork.no ?_ ?_; (· first | exact rfl | (refine decide_eq_false ?_; omega) | (refine nd_f ?_; omega) | (simp only [decide_true, Bool.and_self, Bool.not_true]))) | refine Fork.dec (fun h => ?_) (fun h => ?_) | refine Fork.ndec (fun h => ?_) (fun h => ?_) | refine Fork.mk (fun h => ?_) (fun h => ?_)) | (refine OpsL.same ?_; first | refine Ops.pc rfl (Fits.eq rfl) C15 rfl ?_ | (refine Ops.pcp rfl (Fits.eq rfl) C15 rfl ?_ ?_; (· (first | trivial | omega | ((try simp only [R64, true_and, and_true, Int.toNat_natCast, List.length_cons, List.length_nil]); omega)))) | refine Ops.pc rfl (Fits.eq rfl) C28 rfl ?_ | (refine Ops.pcp rfl (Fits.eq rfl) C28 rfl ?_ ?_; (· (first | trivial | omega | ((try simp only [R64, true_and, and_true, Int.toNat_natCast, List.length_cons, List.length_nil]); omega)))) | refine Ops.pc rfl (Fits.eq rfl) C30 rfl ?_ | (refine Ops.pcp rfl (Fits.eq rfl) C30 rfl ?_ ?_; (· (first | trivial | omega | ((try simp only [R64, true_and, and_true, Int.toNat_natCast, List.length_cons, List.length_nil]); omega)))) | refine Ops.pc rfl (Fits.eq rfl) C48 rfl ?_ | (refine Ops.pcp rfl (Fits.eq rfl) C48 rfl ?_ ?_; (· (first | trivial | omega | ((try simp only [R64, true_and, and_true, Int.toNat_natCast, List.length_cons, List.length_nil]); omega)))) | refine Ops.pc rfl (Fits.eq rfl) c1 rfl ?_ | (refine Ops.pcp rfl (Fits.eq rfl) c1 rfl ?_ ?_; (· (first | trivial | omega | ((try simp only [R64, true_and, and_true, Int.toNat_natCast, List.length_cons, List.length_nil]); omega)))) | refine Ops.pc rfl (Fits.eq rfl) c2 rfl ?_ | (refine Ops.pcp rfl (Fits.eq rfl) c2 rfl ?_ ?_; (· (first | trivial | omega | ((try simp only [R64, true_and, and_true, Int.toNat_natCast, List.length_cons, List.length_nil]); omega)))) | refine Ops.pc rfl (Fits.eq rfl) d1 rfl ?_ | (refine Ops.pcp rfl (Fits.eq rfl) d1 rfl ?_ ?_; (· (first | trivial | omega | ((try simp only [R64, true_and, and_true, Int.toNat_natCast, List.length_cons, List.length_nil]); omega)))) | refine Ops.pc rfl (Fits.eq rfl) d2 rfl ?_ | (refine Ops.pcp rfl (Fits.eq rfl) d2 rfl ?_ ?_; (· (first | trivial | omega | ((try simp only [R64, true_and, and_true, Int.toNat_natCast, List.length_cons, List.length_nil]); omega)))) | refine Ops.pc rfl (Fits.eq rfl) d3 rfl ?_ | (refine Ops.pcp rfl (Fits.eq rfl) d3 rfl ?_ ?_; (· (first | trivial | omega | ((try simp only [R64, true_and, and_true, Int.toNat_natCast, List.length_cons, List.length_nil]); omega)))) | refine Ops.pc rfl (Fits.eq rfl) d4 rfl ?_ | (refine Ops.pcp rfl (Fits.eq rfl) d4 rfl ?_ ?_; (· (first | trivial | omega | ((try simp only [R64, true_and, and_true, Int.toNat_natCast, List.length_cons, List.length_nil]); omega)))) ) | (refine OpsDL.same ?_; first | refine OpsD.pc rfl (Fits.eq rfl) C15 rfl ?_ | (refine OpsD.pcp rfl (Fits.eq rfl) C15 rfl ?_ ?_; (· (first | trivial | omega | ((try simp only [R64, true_and, and_true, Int.toNat_natCast, List.length_cons, List.length_nil]); omega)))) | refine OpsD.pc rfl (Fits.eq rfl) C28 rfl ?_ | (refine OpsD.pcp rfl (Fits.eq rfl) C28 rfl ?_ ?_; (· (first | trivial | omega | ((try simp only [R64, true_and, and_true, Int.toNat_natCast, List.length_cons, List.length_nil]); omega)))) | refine OpsD.pc rfl (Fits.eq rfl) C30 rfl ?_ | (refine OpsD.pcp rfl (Fits.eq rfl) C30 rfl ?_ ?_; (· (first | trivial | omega | ((try simp only [R64, true_and, and_true, Int.toNat_natCast, List.length_cons, List.length_nil]); omega)))) | refine OpsD.pc rfl (Fits.eq rfl) C48 rfl ?_ | (refine OpsD.pcp rfl (Fits.eq rfl) C48 rfl ?_ ?_; (· (first | trivial | omega | ((try simp only [R64, true_and, and_true, Int.toNat_natCast, List.length_cons, List.length_nil]); omega)))) | refine OpsD.pc rfl (Fits.eq rfl) c1 rfl ?_ | (refine OpsD.pcp rfl (Fits.eq rfl) c1 rfl ?_ ?_; (· (first | trivial | omega | ((try simp only [R64, true_and, and_true, Int.toNat_natCast, List.length_cons, List.length_nil]); omega)))) | refine OpsD.pc rfl (Fits.eq rfl) c2 rfl ?_ | (refine OpsD.pcp rfl (Fits.eq rfl) c2 rfl ?_ ?_; (· (first | trivial | omega | ((try simp only [R64, true_and, and_true, Int.toNat_natCast, List.length_cons, List.length_nil]); omega)))) | refine OpsD.pc rfl (Fits.eq rfl) d1 rfl ?_ | (refine OpsD.pcp rfl (Fits.eq rfl) d1 rfl ?_ ?_; (· (first | trivial | omega | ((try simp only [R64, true_and, and_true, Int.toNat_natCast, List.length_cons, List.length_nil]); omega)))) | refine OpsD.pc rfl (Fits.eq rfl) d2 rfl ?_ | (refine OpsD.pcp rfl (Fits.eq rfl) d2 rfl ?_ ?_; (· (first | trivial | omega | ((try simp only [R64, true_and, and_true, Int.toNat_natCast, List.length_cons, List.length_nil]); omega)))) | refine OpsD.pc rfl (Fits.eq rfl) d3 rfl ?_ | (refine OpsD.pcp rfl (Fits.eq rfl) d3 rfl ?_ ?_; (· (first | trivial | omega | ((try simp only [R64, true_and, and_true, Int.toNat_natCast, List.length_cons, List.length_nil]); omega)))) | refine OpsD.pc rfl (Fits.eq rfl) d4 rfl ?_ | (refine OpsD.pcp rfl (Fits.eq rfl) d4 rfl ?_ ?_; (· (first | trivial | omega | ((try simp only [R64, true_and, and_true, Int.toNat_natCast, List.length_cons, List.length_nil]); omega)))) ) | refine MvQ.stay ?_ | refine Owe.mk ?_ ?_)
        all_goals (refine RetQ.plain (Nat.le_refl _) (by first | exact .inr rfl | exact .inl rfl) rfl (by (simp only [cloL, clo, cloC, cloCs, and_self])) ?_; (repeat' first | exact True.intro | exact VEq.refl _ | exact EEq.same _ | exact CEq.refl _ | exact VEq.int rfl | apply VEq.tru | apply VEq.fls | apply VEq.bool | apply VEq.int | exact VEq.nill rfl | exact VEq.zl rfl | exact VEq.nil | exact VEq.li_1 | exact VEq.li_2 | exact VEq.li_3 | exact VEq.li_4 | exact VEq.lp_1 | exact VEq.lp_2 | exact VEq.lp_3 | exact VEq.lp_4 | exact VEq.lt_1 | exact VEq.lt_2 | exact VEq.lt_3 | apply VEq.ms | apply VEq.sll | apply VEq.aggs | apply EEq.boxs | apply EEq.app1 | apply EEq.app2 | apply EEq.app3 | apply CEq.ms | apply CEq.int | apply CEq.sll | exact CEq.nill rfl | apply And.intro | exact rfl))
    · rw [if_neg h0] at ho
      obtain ⟨d1, d2⟩ := boxes_err hlc ho h0
      obtain ⟨d3, d4⟩ := over_err hlc (show tgE (opb x z l b) = (lineE x z l).2 by rw [tgE, ho, if_neg h0]) h0
      refine PFD.of (vs := [_]) fn10 rfl (by (simp only [cloL, clo, cloC, cloCs, and_self])) ?_
      (repeat' first | (refine Owe.mk ?_ ?_; (· (first | trivial | omega | ((try simp only [R64, true_and, and_true, Int.toNat_natCast, List.length_cons, List.length_nil]); omega)))) | (refine Fork.same ?_; first | (refine Fork.yes ?_ ?_; (· first | exact rfl | (refine decide_eq_true ?_; omega) | (refine nd_t ?_; omega) | (simp only [decide_true, Bool.and_self, Bool.not_false]))) | (refine Fork.no ?_ ?_; (· first | exact rfl | (refine decide_eq_false ?_; omega) | (refine nd_f ?_; omega) | (simp only [decide_true, Bool.and_self, Bool.not_true]))) | refine Fork.dec (fun h => ?_) (fun h => ?_) | refine Fork.ndec (fun h => ?_) (fun h => ?_) | refine Fork.mk (fun h => ?_) (fun h => ?_)) | (refine OpsL.same ?_; first | refine Ops.pc rfl (Fits.eq rfl) C15 rfl ?_ | (refine Ops.pcp rfl (Fits.eq rfl) C15 rfl ?_ ?_; (· (first | trivial | omega | ((try simp only [R64, true_and, and_true, Int.toNat_natCast, List.length_cons, List.length_nil]); omega)))) | refine Ops.pc rfl (Fits.eq rfl) C28 rfl ?_ | (refine Ops.pcp rfl (Fits.eq rfl) C28 rfl ?_ ?_; (· (first | trivial | omega | ((try simp only [R64, true_and, and_true, Int.toNat_natCast, List.length_cons, List.length_nil]); omega)))) | refine Ops.pc rfl (Fits.eq rfl) C30 rfl ?_ | (refine Ops.pcp rfl (Fits.eq rfl) C30 rfl ?_ ?_; (· (first | trivial | omega | ((try simp only [R64, true_and, and_true, Int.toNat_natCast, List.length_cons, List.length_nil]); omega)))) | refine Ops.pc rfl (Fits.eq rfl) C48 rfl ?_ | (refine Ops.pcp rfl (Fits.eq rfl) C48 rfl ?_ ?_; (· (first | trivial | omega | ((try simp only [R64, true_and, and_true, Int.toNat_natCast, List.length_cons, List.length_nil]); omega)))) | refine Ops.pc rfl (Fits.eq rfl) c1 rfl ?_ | (refine Ops.pcp rfl (Fits.eq rfl) c1 rfl ?_ ?_; (· (first | trivial | omega | ((try simp only [R64, true_and, and_true, Int.toNat_natCast, List.length_cons, List.length_nil]); omega)))) | refine Ops.pc rfl (Fits.eq rfl) d1 rfl ?_ | (refine Ops.pcp rfl (Fits.eq rfl) d1 rfl ?_ ?_; (· (first | trivial | omega | ((try simp only [R64, true_and, and_true, Int.toNat_natCast, List.length_cons, List.length_nil]); omega)))) | refine Ops.pc rfl (Fits.eq rfl) d2 rfl ?_ | (refine Ops.pcp rfl (Fits.eq rfl) d2 rfl ?_ ?_; (· (first | trivial | omega | ((try simp only [R64, true_and, and_true, Int.toNat_natCast, List.length_cons, List.length_nil]); omega)))) | refine Ops.pc rfl (Fits.eq rfl) d3 rfl ?_ | (refine Ops.pcp rfl (Fits.eq rfl) d3 rfl ?_ ?_; (· (first | trivial | omega | ((try simp only [R64, true_and, and_true, Int.toNat_natCast, List.length_cons, List.length_nil]); omega)))) | refine Ops.pc rfl (Fits.eq rfl) d4 rfl ?_ | (refine Ops.pcp rfl (Fits.eq rfl) d4 rfl ?_ ?_; (· (first | trivial | omega | ((try simp only [R64, true_and, and_true, Int.toNat_natCast, List.length_cons, List.length_nil]); omega)))) ) | (refine OpsDL.same ?_; first | refine OpsD.pc rfl (Fits.eq rfl) C15 rfl ?_ | (refine OpsD.pcp rfl (Fits.eq rfl) C15 rfl ?_ ?_; (· (first | trivial | omega | ((try simp only [R64, true_and, and_true, Int.toNat_natCast, List.length_cons, List.length_nil]); omega)))) | refine OpsD.pc rfl (Fits.eq rfl) C28 rfl ?_ | (refine OpsD.pcp rfl (Fits.eq rfl) C28 rfl ?_ ?_; (· (first | trivial | omega | ((try simp only [R64, true_and, and_true, Int.toNat_natCast, List.length_cons, List.length_nil]); omega)))) | refine OpsD.pc rfl (Fits.eq rfl) C30 rfl ?_ | (refine OpsD.pcp rfl (Fits.eq rfl) C30 rfl ?_ ?_; (· (first | trivial | omega | ((try simp only [R64, true_and, and_true, Int.toNat_natCast, List.length_cons, List.length_nil]); omega)))) | refine OpsD.pc rfl (Fits.eq rfl) C48 rfl ?_ | (refine OpsD.pcp rfl (Fits.eq rfl) C48 rfl ?_ ?_; (· (first | trivial | omega | ((try simp only [R64, true_and, and_true, Int.toNat_natCast, List.length_cons, List.length_nil]); omega)))) | refine OpsD.pc rfl (Fits.eq rfl) c1 rfl ?_ | (refine OpsD.pcp rfl (Fits.eq rfl) c1 rfl ?_ ?_; (· (first | trivial | omega | ((try simp only [R64, true_and, and_true, Int.toNat_natCast, List.length_cons, List.length_nil]); omega)))) | refine OpsD.pc rfl (Fits.eq rfl) d1 rfl ?_ | (refine OpsD.pcp rfl (Fits.eq rfl) d1 rfl ?_ ?_; (· (first | trivial | omega | ((try simp only [R64, true_and, and_true, Int.toNat_natCast, List.length_cons, List.length_nil]); omega)))) | refine OpsD.pc rfl (Fits.eq rfl) d2 rfl ?_ | (refine OpsD.pcp rfl (Fits.eq rfl) d2 rfl ?_ ?_; (· (first | trivial | omega | ((try simp only [R64, true_and, and_true, Int.toNat_natCast, List.length_cons, List.length_nil]); omega)))) | refine OpsD.pc rfl (Fits.eq rfl) d3 rfl ?_ | (refine OpsD.pcp rfl (Fits.eq rfl) d3 rfl ?_ ?_; (· (first | trivial | omega | ((try simp only [R64, true_and, and_true, Int.toNat_natCast, List.length_cons, List.length_nil]); omega)))) | refine OpsD.pc rfl (Fits.eq rfl) d4 rfl ?_ | (refine OpsD.pcp rfl (Fits.eq rfl) d4 rfl ?_ ?_; (· (first | trivial | omega | ((try simp only [R64, true_and, and_true, Int.toNat_natCast, List.length_cons, List.length_nil]); omega)))) ) | refine MvQ.stay ?_ | refine Owe.mk ?_ ?_)
      all_goals (refine RetQ.plain (Nat.le_refl _) (by first | exact .inr rfl | exact .inl rfl) rfl (by (simp only [cloL, clo, cloC, cloCs, and_self])) ?_; (repeat' first | exact True.intro | exact VEq.refl _ | exact EEq.same _ | exact CEq.refl _ | exact VEq.int rfl | apply VEq.tru | apply VEq.fls | apply VEq.bool | apply VEq.int | exact VEq.nill rfl | exact VEq.zl rfl | exact VEq.nil | exact VEq.li_1 | exact VEq.li_2 | exact VEq.li_3 | exact VEq.li_4 | exact VEq.lp_1 | exact VEq.lp_2 | exact VEq.lp_3 | exact VEq.lp_4 | exact VEq.lt_1 | exact VEq.lt_2 | exact VEq.lt_3 | apply VEq.ms | apply VEq.sll | apply VEq.aggs | apply EEq.boxs | apply EEq.app1 | apply EEq.app2 | apply EEq.app3 | apply CEq.ms | apply CEq.int | apply CEq.sll | exact CEq.nill rfl | apply And.intro | exact rfl))
  · refine PFD.of (vs := [_]) fn10 rfl (by (simp only [cloL, clo, cloC, cloCs, and_self])) ?_
    (repeat' first | (refine Owe.mk ?_ ?_; (· (first | trivial | omega | ((try simp only [R64, true_and, and_true, Int.toNat_natCast, List.length_cons, List.length_nil]); omega)))) | (refine Fork.same ?_; first | (refine Fork.yes ?_ ?_; (· first | exact rfl | (refine decide_eq_true ?_; omega) | (refine nd_t ?_; omega) | (simp only [decide_true, Bool.and_self, Bool.not_false]))) | (refine Fork.no ?_ ?_; (· first | exact rfl | (refine decide_eq_false ?_; omega) | (refine nd_f ?_; omega) | (simp only [decide_true, Bool.and_self, Bool.not_true]))) | refine Fork.dec (fun h => ?_) (fun h => ?_) | refine Fork.ndec (fun h => ?_) (fun h => ?_) | refine Fork.mk (fun h => ?_) (fun h => ?_)) | (refine OpsL.same ?_; first | refine Ops.pc rfl (Fits.eq rfl) C15 rfl ?_ | (refine Ops.pcp rfl (Fits.eq rfl) C15 rfl ?_ ?_; (· (first | trivial | omega | ((try simp only [R64, true_and, and_true, Int.toNat_natCast, List.length_cons, List.length_nil]); omega)))) | refine Ops.pc rfl (Fits.eq rfl) C28 rfl ?_ | (refine Ops.pcp rfl (Fits.eq rfl) C28 rfl ?_ ?_; (· (first | trivial | omega | ((try simp only [R64, true_and, and_true, Int.toNat_natCast, List.length_cons, List.length_nil]); omega)))) ) | (refine OpsDL.same ?_; first | refine OpsD.pc rfl (Fits.eq rfl) C15 rfl ?_ | (refine OpsD.pcp rfl (Fits.eq rfl) C15 rfl ?_ ?_; (· (first | trivial | omega | ((try simp only [R64, true_and, and_true, Int.toNat_natCast, List.length_cons, List.length_nil]); omega)))) | refine OpsD.pc rfl (Fits.eq rfl) C28 rfl ?_ | (refine OpsD.pcp rfl (Fits.eq rfl) C28 rfl ?_ ?_; (· (first | trivial | omega | ((try simp only [R64, true_and, and_true, Int.toNat_natCast, List.length_cons, List.length_nil]); omega)))) ) | refine MvQ.stay ?_ | refine Owe.mk ?_ ?_)
    all_goals (refine RetQ.plain (Nat.le_refl _) (by first | exact .inr rfl | exact .inl rfl) rfl (by (simp only [cloL, clo, cloC, cloCs, and_self])) ?_; (repeat' first | exact True.intro | exact VEq.refl _ | exact EEq.same _ | exact CEq.refl _ | exact VEq.int rfl | apply VEq.tru | apply VEq.fls | apply VEq.bool | apply VEq.int | exact VEq.nill rfl | exact VEq.zl rfl | exact VEq.nil | exact VEq.li_1 | exact VEq.li_2 | exact VEq.li_3 | exact VEq.li_4 | exact VEq.lp_1 | exact VEq.lp_2 | exact VEq.lp_3 | exact VEq.lp_4 | exact VEq.lt_1 | exact VEq.lt_2 | exact VEq.lt_3 | apply VEq.ms | apply VEq.sll | apply VEq.aggs | apply EEq.boxs | apply EEq.app1 | apply EEq.app2 | apply EEq.app3 | apply CEq.ms | apply CEq.int | apply CEq.sll | exact CEq.nill rfl | apply And.intro | exact rfl))
end Go.Pw

namespace Go.Proofs.Ytkoohllimmkmoaa
open Go.ChangeShapes Go.WideShapes Go.ChangeAt Go.RowKit Go.Pw
theorem Try.own : ownKnob Try.prog.godebug = none := by kernel_rfl
theorem Try.laidOut : laidOutB Try.prog = true := by kernel_rfl
theorem shapes : shAll Try.prog [49, 72] = some [(true, [.int .i64, .int .i64, .sl [.int .i64, .int .i64, .int .i64]]), (false, [.sl [.int .i64, .int .i64]])] := by kernel_rfl
theorem law (args : List V) (h : ArgOk [(true, [.int .i64, .int .i64, .sl [.int .i64, .int .i64, .int .i64]]), (false, [.sl [.int .i64, .int .i64]])] args) : PFD Try.prog 10 args (vbl true) := by
  match args, h with
  | [v0, v1], ⟨h0, h1, _⟩ =>
    obtain ⟨x0, z0, l0, r0, q0⟩ := arg_line h0
    obtain ⟨l1, r1, q1⟩ := arg_prs h1
    exact PFD.ri C10 (.cons r0 (.cons r1 .nil))
set_option maxRecDepth 100000 in
theorem lifted (os : Os) (started : os.Started) (H : Type) (enc : TypeId × Value → H) :
    ReturnsInHanded {} Try.checked os 10 .any (Rows.cableBoxesSpec.pre6 enc Try.prog Try.f10 Rows.cableBoxesRow.domain false) (Rows.cableBoxesSpec.post enc Try.prog Try.f10 false true false false) := by
  refine returnsInHanded_of_change (C := Try.checked) Try.own started (by kernel_rfl) Try.func10
    (ChangeSpec.witness6 (enc := enc) (C := Try.checked) false ⟨#[], #[.agg #[.int .i64 0, .int .i64 0, .slice none 0 0], .slice none 0 0], []⟩ 8 (by kernel_rfl) (by kernel_rfl) (by kernel_rfl) (by kernel_rfl)) ?_
  intro W base args ds gs before hval0 hW hcnd _
  exact law_calls (P := Try.prog) (F := Try.f10) (tb := 4) Try.laidOut (by rw [Try.params10]; exact shapes) rfl (fun ds hl => by
    rw [Try.params10] at hl
    match ds, hl with
    | [d0, d1], _ => rfl) (by kernel_rfl) Try.underlying4 law W base args ds gs before hval0 hW
theorem row_holds : Rows.CableBoxesSaid :=
  OpenClaim.holds_of_wide 10 Try.f10 rfl rfl rfl rfl rfl rfl rfl ⟨rfl, rfl, rfl, rfl, rfl⟩ rfl rfl rfl rfl rfl (by kernel_rfl) Try.func10 (by kernel_rfl)
    (of_decide_eq_true (by kernel_rfl)) (by unfold Func.isWrapper; rw [if_neg (by decide +kernel)]; exact ⟨rfl, rfl⟩)
    (fun os started H enc _ => lifted os started H enc)
end Go.Proofs.Ytkoohllimmkmoaa
