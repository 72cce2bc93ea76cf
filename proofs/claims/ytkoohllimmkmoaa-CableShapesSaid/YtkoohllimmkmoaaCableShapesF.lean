/- Proved here at the end: the row named in the last theorem, on no condition. -/
import Derived.Test.YtkoohllimmkmoaaCableShapesE
import Derived.Test.YtkoohllimmkmoaaProg
import Derived.Test.YtkoohllimmkmoaaRows
set_option linter.unusedSimpArgs false
namespace Go.Pw
open Go Go.Proofs
theorem PFD.ri' {P : Program} {f : FuncId} {args args' : List V} {v : V} (h : PFD P f args' v) (hr : RIs args args') : PFD P f args v :=
  ⟨h.h.1, h.h.2.1, fun Γ w us h1 h2 h3 => h.h.2.2 Γ w us h1 h2 (hr.rep h3)⟩
theorem C101 {a : Rg} : ((-20000 ≤ a.1 ∧ a.1 ≤ 20000) ∧ -20000 ≤ a.2 ∧ a.2 ≤ 20000) → PFD Try.prog 101 [.agg [int a.1, int a.2]] (vi .i64 (sqI a)) := fun h => by
  have h1 := mbd (A := 20000) (B := 20000) h.1 h.1
  have h2 := mbd (A := 20000) (B := 20000) h.2 h.2
  refine PFD.of (vs := [_]) fn101 rfl (by (simp only [cloL, clo, cloC, cloCs, and_self])) ?_
  (repeat' first | (refine Owe.mk ?_ ?_; (· (first | trivial | omega | ((try simp only [R64, true_and, and_true, Int.toNat_natCast, List.length_cons, List.length_nil]); omega)))) | (refine Fork.same ?_; first | refine Fork.dec (fun h => ?_) (fun h => ?_) | refine Fork.ndec (fun h => ?_) (fun h => ?_) | refine Fork.mk (fun h => ?_) (fun h => ?_)) | refine MvQ.stay ?_ | refine Owe.mk ?_ ?_)
  (refine RetQ.plain (Nat.le_refl _) (by first | exact .inr rfl | exact .inl rfl) rfl (by (simp only [cloL, clo, cloC, cloCs, and_self])) ?_; (repeat' first | exact True.intro | exact VEq.refl _ | exact EEq.same _ | exact CEq.refl _ | exact VEq.int rfl | apply VEq.tru | apply VEq.fls | apply VEq.bool | apply VEq.int | exact VEq.nill rfl | exact VEq.zl rfl | exact VEq.nil | exact VEq.li_1 | exact VEq.li_2 | exact VEq.li_3 | exact VEq.li_4 | exact VEq.lp_1 | exact VEq.lp_2 | exact VEq.lp_3 | exact VEq.lp_4 | exact VEq.lt_1 | exact VEq.lt_2 | exact VEq.lt_3 | apply VEq.ms | apply VEq.sll | apply VEq.aggs | apply EEq.boxs | apply EEq.app1 | apply EEq.app2 | apply EEq.app3 | apply CEq.ms | apply CEq.int | apply CEq.sll | exact CEq.nill rfl | apply And.intro | exact rfl))
abbrev opL (x z : Int) (l : List Lk) (c : List Int) : Ln := ⟨x, z, l, c.map dup⟩
theorem dup_get {c : List Int} {k : Nat} (h : k < c.length) : (c.map dup).getD k (0, 0) = (c.getD k 0, c.getD k 0) := by
  simp [List.getD_eq_getElem?_getD, h]
theorem opL_lo {x z : Int} {l : List Lk} {c : List Int} {k : Nat} (h : k < c.length) : (opL x z l c).lo k = c.getD k 0 := by
  simp only [Ln.lo, dup_get h]
theorem C40 {x z : Int} {l : List Lk} {c : List Int} : (opL x z l c).Ok → PFD Try.prog 40 [.agg [int x, int z, trs l], .c (ints c)] (.c (prs (accL (tnF (opL x z l c)) l.length))) := fun hL => by
  have hcl : c.length = l.length := by have := hL.b; simpa using this
  have hl : 0 < l.length ∧ l.length ≤ 10 := hL.k.n
  obtain ⟨L, hLe⟩ : ∃ L, L = opL x z l c := ⟨_, rfl⟩
  have hlen : L.l.length = l.length := by rw [hLe]
  refine PFD.of (vs := [_]) fn40 rfl (by (simp only [cloL, clo, cloC, cloCs, and_self])) ?_
  (repeat' first | (refine Owe.mk ?_ ?_; (· (first | trivial | omega | ((try simp only [R64, true_and, and_true, Int.toNat_natCast, List.length_cons, List.length_nil]); omega)))) | (refine Fork.same ?_; first | refine Fork.dec (fun h => ?_) (fun h => ?_) | refine Fork.ndec (fun h => ?_) (fun h => ?_) | refine Fork.mk (fun h => ?_) (fun h => ?_)) | refine MvQ.stay ?_ | refine Owe.mk ?_ ?_)
  refine Sat.nilS 5 46 2 (fun i => r2 (([] : List Rg).getD i (0, 0))) rfl ?_
  refine Sat.lp (fun k : Nat => ⟨[(7, vi .i64 k), (6, .c (.bp 1 0)), (5, .c (.ms 2 (accL (tnF L) k).length)), (1, .c (ints c)), (2, .c (.bp 0 0))], [(2, rowv 46 2 r2 (0, 0) (accL (tnF L) k)), (1, .box [int (L.pl k), int (L.pz k)]), (0, .box [int x, int z, trs l])], 3⟩)
    (fun k => k ≤ l.length) (fun k => l.length - k) 0 [0, 1, 2] (Nat.zero_le _) ?_ ?_
  · refine ⟨rfl, ?_, ?_⟩ <;> (repeat' first | exact True.intro | exact VEq.refl _ | exact EEq.same _ | exact CEq.refl _ | exact VEq.int rfl | apply VEq.tru | apply VEq.fls | apply VEq.bool | apply VEq.int | exact VEq.nill rfl | exact VEq.zl rfl | exact VEq.nil | exact VEq.li_1 | exact VEq.li_2 | exact VEq.li_3 | exact VEq.li_4 | exact VEq.lp_1 | exact VEq.lp_2 | exact VEq.lp_3 | exact VEq.lp_4 | exact VEq.lt_1 | exact VEq.lt_2 | exact VEq.lt_3 | apply VEq.ms | apply VEq.sll | apply VEq.aggs | apply EEq.boxs | apply EEq.app1 | apply EEq.app2 | apply EEq.app3 | apply CEq.ms | apply CEq.int | apply CEq.sll | exact CEq.nill rfl | apply And.intro | exact rfl) <;> (rw [hLe]; rfl)
  · intro k hk
    refine Fork.dec (fun hlt => ?_) (fun hlt => ?_)
    · have hlt : k < l.length := by omega
      have hd := hL.dlo (k := k) hlt
      have hw := (hL.lk (k := k) hlt).2.1
      have hb := hL.bd k (by show k ≤ l.length; omega)
      rw [opL_lo (by omega)] at hd
      have hn := accL_len (tnF L) k
      have hs := accL_succ (tnF L) k
      have e1 : L.pl (k + 1) = L.pl k + (l.getD k (0, 0, 0)).2.2 * c.getD k 0 := by
        rw [hLe]; show (opL x z l c).pl k + (opL x z l c).d k * (opL x z l c).lo k = _; rw [opL_lo (by omega)]; rfl
      have e2 : L.pz (k + 1) = L.pz k + (l.getD k (0, 0, 0)).2.1 := by rw [hLe]; rfl
      rw [← hLe] at hb
      have hd : -1000 ≤ (l.getD k (0, 0, 0)).2.2 * c.getD k 0 ∧ (l.getD k (0, 0, 0)).2.2 * c.getD k 0 ≤ 1000 := hd
      have hw : -1000 ≤ (l.getD k (0, 0, 0)).2.1 ∧ (l.getD k (0, 0, 0)).2.1 ≤ 1000 := hw
      (repeat' first | (refine Owe.mk ?_ ?_; (· (first | trivial | omega | ((try simp only [R64, true_and, and_true, Int.toNat_natCast, List.length_cons, List.length_nil]); omega)))) | (refine Fork.same ?_; first | refine Fork.dec (fun h => ?_) (fun h => ?_) | refine Fork.ndec (fun h => ?_) (fun h => ?_) | refine Fork.mk (fun h => ?_) (fun h => ?_)) | refine MvQ.stay ?_ | refine Owe.mk ?_ ?_)
      refine again (k + 1) [0, 1, 28] hlt (by omega) ?_
      have hs : accL (tnF L) (k + 1) = accL (tnF L) k ++ [(L.pl k + (l.getD k (0, 0, 0)).2.2 * c.getD k 0, L.pz k + (l.getD k (0, 0, 0)).2.1)] := by rw [hs, tnF, e1, e2]
      refine ⟨rfl, ?_, ?_⟩ <;> (repeat' first | exact True.intro | exact VEq.refl _ | exact EEq.same _ | exact CEq.refl _ | exact VEq.int rfl | apply VEq.tru | apply VEq.fls | apply VEq.bool | apply VEq.int | exact VEq.nill rfl | exact VEq.zl rfl | exact VEq.nil | exact VEq.li_1 | exact VEq.li_2 | exact VEq.li_3 | exact VEq.li_4 | exact VEq.lp_1 | exact VEq.lp_2 | exact VEq.lp_3 | exact VEq.lp_4 | exact VEq.lt_1 | exact VEq.lt_2 | exact VEq.lt_3 | apply VEq.ms | apply VEq.sll | apply VEq.aggs | apply EEq.boxs | apply EEq.app1 | apply EEq.app2 | apply EEq.app3 | apply CEq.ms | apply CEq.int | apply CEq.sll | exact CEq.nill rfl | apply And.intro | exact rfl)
      · rw [hs]; simp
      · exact hs
      · exact e1.symm
      · exact e2.symm
    · (repeat' first | (refine Owe.mk ?_ ?_; (· (first | trivial | omega | ((try simp only [R64, true_and, and_true, Int.toNat_natCast, List.length_cons, List.length_nil]); omega)))) | (refine Fork.same ?_; first | refine Fork.dec (fun h => ?_) (fun h => ?_) | refine Fork.ndec (fun h => ?_) (fun h => ?_) | refine Fork.mk (fun h => ?_) (fun h => ?_)) | refine MvQ.stay ?_ | refine Owe.mk ?_ ?_)
      have : k = l.length := by omega
      subst this
      rw [← hLe]
      refine RetQ.of (by first | exact .inr rfl | exact .inl rfl) rfl rfl ((Mv.freeze 0 _ rfl rfl (Nat.le_refl _)).trans (Mv.plain (by rfl) ?_)); (repeat' first | exact True.intro | exact VEq.refl _ | exact EEq.same _ | exact CEq.refl _ | exact VEq.int rfl | apply VEq.tru | apply VEq.fls | apply VEq.bool | apply VEq.int | exact VEq.nill rfl | exact VEq.zl rfl | exact VEq.nil | exact VEq.li_1 | exact VEq.li_2 | exact VEq.li_3 | exact VEq.li_4 | exact VEq.lp_1 | exact VEq.lp_2 | exact VEq.lp_3 | exact VEq.lp_4 | exact VEq.lt_1 | exact VEq.lt_2 | exact VEq.lt_3 | apply VEq.ms | apply VEq.sll | apply VEq.aggs | apply EEq.boxs | apply EEq.app1 | apply EEq.app2 | apply EEq.app3 | apply CEq.ms | apply CEq.int | apply CEq.sll | exact CEq.nill rfl | apply And.intro | exact rfl)
abbrev htF (L : Ln) (i : Nat) : Int := L.pz (i + 1)
theorem opL_stl {x z : Int} {l : List Lk} : opL x z l (List.replicate l.length 0) = stl x z l := by
  simp only [opL, stl, zro, List.map_replicate]
theorem C115 {x z : Int} {l : List Lk} : LnOk x z l → PFD Try.prog 115 [.agg [int x, int z, trs l]] (.c (ints (accL (htF (stl x z l)) l.length))) := fun h => by
  have hL : (stl x z l).Ok := stl_ok (lineE_ok.2 h)
  have hl := h.n
  have c1 := C40 (x := x) (z := z) (l := l) (c := List.replicate l.length 0) (by rw [opL_stl]; exact hL)
  rw [opL_stl] at c1
  have c1 : PFD Try.prog 40 [.agg [int x, int z, trs l], .c (.d (.sl 1 l.length fun _ => [dI 0]))] (.c (prs (accL (tnF (stl x z l)) l.length))) := c1.ri' (.cons (RI.refl _) (.cons (VEq.ri (VEq.c _ _ (CEq.sl (by simp) fun i hi => by simp [hi]))) .nil))
  obtain ⟨L, hLe⟩ : ∃ L, L = stl x z l := ⟨_, rfl⟩
  rw [← hLe] at c1 ⊢
  refine PFD.of (vs := [_]) fn115 rfl (by (simp only [cloL, clo, cloC, cloCs, and_self])) ?_
  (repeat' first | (refine Owe.mk ?_ ?_; (· (first | trivial | omega | ((try simp only [R64, true_and, and_true, Int.toNat_natCast, List.length_cons, List.length_nil]); omega)))) | (refine Fork.same ?_; first | refine Fork.dec (fun h => ?_) (fun h => ?_) | refine Fork.ndec (fun h => ?_) (fun h => ?_) | refine Fork.mk (fun h => ?_) (fun h => ?_)) | (refine OpsL.same ?_; first | refine Ops.pc rfl (Fits.eq rfl) c1 rfl ?_ | (refine Ops.pcp rfl (Fits.eq rfl) c1 rfl ?_ ?_; (· (first | trivial | omega | ((try simp only [R64, true_and, and_true, Int.toNat_natCast, List.length_cons, List.length_nil]); omega)))) | refine Ops.pc rfl (Fits.veq (by (repeat' first | exact True.intro | exact VEq.refl _ | exact EEq.same _ | exact CEq.refl _ | exact VEq.int rfl | apply VEq.tru | apply VEq.fls | apply VEq.bool | apply VEq.int | exact VEq.nill rfl | exact VEq.zl rfl | exact VEq.nil | exact VEq.li_1 | exact VEq.li_2 | exact VEq.li_3 | exact VEq.li_4 | exact VEq.lp_1 | exact VEq.lp_2 | exact VEq.lp_3 | exact VEq.lp_4 | exact VEq.lt_1 | exact VEq.lt_2 | exact VEq.lt_3 | apply VEq.ms | apply VEq.sll | apply VEq.aggs | apply EEq.boxs | apply EEq.app1 | apply EEq.app2 | apply EEq.app3 | apply CEq.ms | apply CEq.int | apply CEq.sll | exact CEq.nill rfl | apply And.intro | exact rfl))) c1 rfl ?_ | (refine Ops.pcp rfl (Fits.veq (by (repeat' first | exact True.intro | exact VEq.refl _ | exact EEq.same _ | exact CEq.refl _ | exact VEq.int rfl | apply VEq.tru | apply VEq.fls | apply VEq.bool | apply VEq.int | exact VEq.nill rfl | exact VEq.zl rfl | exact VEq.nil | exact VEq.li_1 | exact VEq.li_2 | exact VEq.li_3 | exact VEq.li_4 | exact VEq.lp_1 | exact VEq.lp_2 | exact VEq.lp_3 | exact VEq.lp_4 | exact VEq.lt_1 | exact VEq.lt_2 | exact VEq.lt_3 | apply VEq.ms | apply VEq.sll | apply VEq.aggs | apply EEq.boxs | apply EEq.app1 | apply EEq.app2 | apply EEq.app3 | apply CEq.ms | apply CEq.int | apply CEq.sll | exact CEq.nill rfl | apply And.intro | exact rfl))) c1 rfl ?_ ?_; (· (first | trivial | omega | ((try simp only [R64, true_and, and_true, Int.toNat_natCast, List.length_cons, List.length_nil]); omega)))) ) | (refine OpsDL.same ?_; first | refine OpsD.pc rfl (Fits.eq rfl) c1 rfl ?_ | (refine OpsD.pcp rfl (Fits.eq rfl) c1 rfl ?_ ?_; (· (first | trivial | omega | ((try simp only [R64, true_and, and_true, Int.toNat_natCast, List.length_cons, List.length_nil]); omega)))) | refine OpsD.pc rfl (Fits.veq (by (repeat' first | exact True.intro | exact VEq.refl _ | exact EEq.same _ | exact CEq.refl _ | exact VEq.int rfl | apply VEq.tru | apply VEq.fls | apply VEq.bool | apply VEq.int | exact VEq.nill rfl | exact VEq.zl rfl | exact VEq.nil | exact VEq.li_1 | exact VEq.li_2 | exact VEq.li_3 | exact VEq.li_4 | exact VEq.lp_1 | exact VEq.lp_2 | exact VEq.lp_3 | exact VEq.lp_4 | exact VEq.lt_1 | exact VEq.lt_2 | exact VEq.lt_3 | apply VEq.ms | apply VEq.sll | apply VEq.aggs | apply EEq.boxs | apply EEq.app1 | apply EEq.app2 | apply EEq.app3 | apply CEq.ms | apply CEq.int | apply CEq.sll | exact CEq.nill rfl | apply And.intro | exact rfl))) c1 rfl ?_ | (refine OpsD.pcp rfl (Fits.veq (by (repeat' first | exact True.intro | exact VEq.refl _ | exact EEq.same _ | exact CEq.refl _ | exact VEq.int rfl | apply VEq.tru | apply VEq.fls | apply VEq.bool | apply VEq.int | exact VEq.nill rfl | exact VEq.zl rfl | exact VEq.nil | exact VEq.li_1 | exact VEq.li_2 | exact VEq.li_3 | exact VEq.li_4 | exact VEq.lp_1 | exact VEq.lp_2 | exact VEq.lp_3 | exact VEq.lp_4 | exact VEq.lt_1 | exact VEq.lt_2 | exact VEq.lt_3 | apply VEq.ms | apply VEq.sll | apply VEq.aggs | apply EEq.boxs | apply EEq.app1 | apply EEq.app2 | apply EEq.app3 | apply CEq.ms | apply CEq.int | apply CEq.sll | exact CEq.nill rfl | apply And.intro | exact rfl))) c1 rfl ?_ ?_; (· (first | trivial | omega | ((try simp only [R64, true_and, and_true, Int.toNat_natCast, List.length_cons, List.length_nil]); omega)))) ) | refine MvQ.stay ?_ | refine Owe.mk ?_ ?_)
  refine Sat.nilS 3 3 1 (fun i => r1 (([] : List Int).getD i 0)) rfl ?_
  refine Sat.lp (fun k : Nat => ⟨[(5, vi .i64 k), (4, .c (prs (accL (tnF L) l.length))), (3, .c (.ms 0 (accL (htF L) k).length))], [(0, rowv 3 1 r1 0 (accL (htF L) k))], 1⟩)
    (fun k => k ≤ l.length) (fun k => l.length - k) 0 [7] (Nat.zero_le _) ?_ ?_
  · refine ⟨rfl, ?_, ?_⟩ <;> (repeat' first | exact True.intro | exact VEq.refl _ | exact EEq.same _ | exact CEq.refl _ | exact VEq.int rfl | apply VEq.tru | apply VEq.fls | apply VEq.bool | apply VEq.int | exact VEq.nill rfl | exact VEq.zl rfl | exact VEq.nil | exact VEq.li_1 | exact VEq.li_2 | exact VEq.li_3 | exact VEq.li_4 | exact VEq.lp_1 | exact VEq.lp_2 | exact VEq.lp_3 | exact VEq.lp_4 | exact VEq.lt_1 | exact VEq.lt_2 | exact VEq.lt_3 | apply VEq.ms | apply VEq.sll | apply VEq.aggs | apply EEq.boxs | apply EEq.app1 | apply EEq.app2 | apply EEq.app3 | apply CEq.ms | apply CEq.int | apply CEq.sll | exact CEq.nill rfl | apply And.intro | exact rfl)
  · intro k hk
    refine Fork.dec (fun hlt => ?_) (fun hlt => ?_)
    · have hn0 := accL_len (tnF L) l.length
      have hlt : k < l.length := by omega
      have hn := accL_len (htF L) k
      have hs := accL_succ (htF L) k
      have hg := accL_get (d := ((0, 0) : Rg)) (tnF L) hlt
      (repeat' first | (refine Owe.mk ?_ ?_; (· (first | trivial | omega | ((try simp only [R64, true_and, and_true, Int.toNat_natCast, List.length_cons, List.length_nil]); omega)))) | (refine Fork.same ?_; first | refine Fork.dec (fun h => ?_) (fun h => ?_) | refine Fork.ndec (fun h => ?_) (fun h => ?_) | refine Fork.mk (fun h => ?_) (fun h => ?_)) | refine MvQ.stay ?_ | refine Owe.mk ?_ ?_)
      refine again (k + 1) [1] hlt (by omega) ?_
      have hs : accL (htF L) (k + 1) = accL (htF L) k ++ [((accL (tnF L) l.length).getD k (0, 0)).2] := by rw [hs, hg]
      refine ⟨rfl, ?_, ?_⟩ <;> (repeat' first | exact True.intro | exact VEq.refl _ | exact EEq.same _ | exact CEq.refl _ | exact VEq.int rfl | apply VEq.tru | apply VEq.fls | apply VEq.bool | apply VEq.int | exact VEq.nill rfl | exact VEq.zl rfl | exact VEq.nil | exact VEq.li_1 | exact VEq.li_2 | exact VEq.li_3 | exact VEq.li_4 | exact VEq.lp_1 | exact VEq.lp_2 | exact VEq.lp_3 | exact VEq.lp_4 | exact VEq.lt_1 | exact VEq.lt_2 | exact VEq.lt_3 | apply VEq.ms | apply VEq.sll | apply VEq.aggs | apply EEq.boxs | apply EEq.app1 | apply EEq.app2 | apply EEq.app3 | apply CEq.ms | apply CEq.int | apply CEq.sll | exact CEq.nill rfl | apply And.intro | exact rfl)
      · rw [hs]; simp
      · exact hs
    · have hn0 := accL_len (tnF L) l.length
      (repeat' first | (refine Owe.mk ?_ ?_; (· (first | trivial | omega | ((try simp only [R64, true_and, and_true, Int.toNat_natCast, List.length_cons, List.length_nil]); omega)))) | (refine Fork.same ?_; first | refine Fork.dec (fun h => ?_) (fun h => ?_) | refine Fork.ndec (fun h => ?_) (fun h => ?_) | refine Fork.mk (fun h => ?_) (fun h => ?_)) | refine MvQ.stay ?_ | refine Owe.mk ?_ ?_)
      have : k = l.length := by omega
      subst this
      refine RetQ.of (by first | exact .inr rfl | exact .inl rfl) rfl rfl ((Mv.freeze 0 _ rfl rfl (Nat.le_refl _)).trans (Mv.plain (by rfl) ?_)); (repeat' first | exact True.intro | exact VEq.refl _ | exact EEq.same _ | exact CEq.refl _ | exact VEq.int rfl | apply VEq.tru | apply VEq.fls | apply VEq.bool | apply VEq.int | exact VEq.nill rfl | exact VEq.zl rfl | exact VEq.nil | exact VEq.li_1 | exact VEq.li_2 | exact VEq.li_3 | exact VEq.li_4 | exact VEq.lp_1 | exact VEq.lp_2 | exact VEq.lp_3 | exact VEq.lp_4 | exact VEq.lt_1 | exact VEq.lt_2 | exact VEq.lt_3 | apply VEq.ms | apply VEq.sll | apply VEq.aggs | apply EEq.boxs | apply EEq.app1 | apply EEq.app2 | apply EEq.app3 | apply CEq.ms | apply CEq.int | apply CEq.sll | exact CEq.nill rfl | apply And.intro | exact rfl)
theorem C53 {x z : Int} {l : List Lk} : LnOk x z l → PFD Try.prog 53 [.agg [int x, int z, trs l]] (.c (ints (fltL (slP (stl x z l)) l.length))) := fun h => by
  have c1 := C115 h
  have hl := h.n
  obtain ⟨L, hLe⟩ : ∃ L, L = stl x z l := ⟨_, rfl⟩
  rw [← hLe] at c1 ⊢
  have hn0 := accL_len (htF L) l.length
  refine PFD.of (vs := [_]) fn53 rfl (by (simp only [cloL, clo, cloC, cloCs, and_self])) ?_
  (repeat' first | (refine Owe.mk ?_ ?_; (· (first | trivial | omega | ((try simp only [R64, true_and, and_true, Int.toNat_natCast, List.length_cons, List.length_nil]); omega)))) | (refine Fork.same ?_; first | refine Fork.dec (fun h => ?_) (fun h => ?_) | refine Fork.ndec (fun h => ?_) (fun h => ?_) | refine Fork.mk (fun h => ?_) (fun h => ?_)) | (refine OpsL.same ?_; first | refine Ops.pc rfl (Fits.eq rfl) c1 rfl ?_ | (refine Ops.pcp rfl (Fits.eq rfl) c1 rfl ?_ ?_; (· (first | trivial | omega | ((try simp only [R64, true_and, and_true, Int.toNat_natCast, List.length_cons, List.length_nil]); omega)))) | refine Ops.pc rfl (Fits.veq (by (repeat' first | exact True.intro | exact VEq.refl _ | exact EEq.same _ | exact CEq.refl _ | exact VEq.int rfl | apply VEq.tru | apply VEq.fls | apply VEq.bool | apply VEq.int | exact VEq.nill rfl | exact VEq.zl rfl | exact VEq.nil | exact VEq.li_1 | exact VEq.li_2 | exact VEq.li_3 | exact VEq.li_4 | exact VEq.lp_1 | exact VEq.lp_2 | exact VEq.lp_3 | exact VEq.lp_4 | exact VEq.lt_1 | exact VEq.lt_2 | exact VEq.lt_3 | apply VEq.ms | apply VEq.sll | apply VEq.aggs | apply EEq.boxs | apply EEq.app1 | apply EEq.app2 | apply EEq.app3 | apply CEq.ms | apply CEq.int | apply CEq.sll | exact CEq.nill rfl | apply And.intro | exact rfl))) c1 rfl ?_ | (refine Ops.pcp rfl (Fits.veq (by (repeat' first | exact True.intro | exact VEq.refl _ | exact EEq.same _ | exact CEq.refl _ | exact VEq.int rfl | apply VEq.tru | apply VEq.fls | apply VEq.bool | apply VEq.int | exact VEq.nill rfl | exact VEq.zl rfl | exact VEq.nil | exact VEq.li_1 | exact VEq.li_2 | exact VEq.li_3 | exact VEq.li_4 | exact VEq.lp_1 | exact VEq.lp_2 | exact VEq.lp_3 | exact VEq.lp_4 | exact VEq.lt_1 | exact VEq.lt_2 | exact VEq.lt_3 | apply VEq.ms | apply VEq.sll | apply VEq.aggs | apply EEq.boxs | apply EEq.app1 | apply EEq.app2 | apply EEq.app3 | apply CEq.ms | apply CEq.int | apply CEq.sll | exact CEq.nill rfl | apply And.intro | exact rfl))) c1 rfl ?_ ?_; (· (first | trivial | omega | ((try simp only [R64, true_and, and_true, Int.toNat_natCast, List.length_cons, List.length_nil]); omega)))) ) | (refine OpsDL.same ?_; first | refine OpsD.pc rfl (Fits.eq rfl) c1 rfl ?_ | (refine OpsD.pcp rfl (Fits.eq rfl) c1 rfl ?_ ?_; (· (first | trivial | omega | ((try simp only [R64, true_and, and_true, Int.toNat_natCast, List.length_cons, List.length_nil]); omega)))) | refine OpsD.pc rfl (Fits.veq (by (repeat' first | exact True.intro | exact VEq.refl _ | exact EEq.same _ | exact CEq.refl _ | exact VEq.int rfl | apply VEq.tru | apply VEq.fls | apply VEq.bool | apply VEq.int | exact VEq.nill rfl | exact VEq.zl rfl | exact VEq.nil | exact VEq.li_1 | exact VEq.li_2 | exact VEq.li_3 | exact VEq.li_4 | exact VEq.lp_1 | exact VEq.lp_2 | exact VEq.lp_3 | exact VEq.lp_4 | exact VEq.lt_1 | exact VEq.lt_2 | exact VEq.lt_3 | apply VEq.ms | apply VEq.sll | apply VEq.aggs | apply EEq.boxs | apply EEq.app1 | apply EEq.app2 | apply EEq.app3 | apply CEq.ms | apply CEq.int | apply CEq.sll | exact CEq.nill rfl | apply And.intro | exact rfl))) c1 rfl ?_ | (refine OpsD.pcp rfl (Fits.veq (by (repeat' first | exact True.intro | exact VEq.refl _ | exact EEq.same _ | exact CEq.refl _ | exact VEq.int rfl | apply VEq.tru | apply VEq.fls | apply VEq.bool | apply VEq.int | exact VEq.nill rfl | exact VEq.zl rfl | exact VEq.nil | exact VEq.li_1 | exact VEq.li_2 | exact VEq.li_3 | exact VEq.li_4 | exact VEq.lp_1 | exact VEq.lp_2 | exact VEq.lp_3 | exact VEq.lp_4 | exact VEq.lt_1 | exact VEq.lt_2 | exact VEq.lt_3 | apply VEq.ms | apply VEq.sll | apply VEq.aggs | apply EEq.boxs | apply EEq.app1 | apply EEq.app2 | apply EEq.app3 | apply CEq.ms | apply CEq.int | apply CEq.sll | exact CEq.nill rfl | apply And.intro | exact rfl))) c1 rfl ?_ ?_; (· (first | trivial | omega | ((try simp only [R64, true_and, and_true, Int.toNat_natCast, List.length_cons, List.length_nil]); omega)))) ) | refine MvQ.stay ?_ | refine Owe.mk ?_ ?_)
  refine Sat.nilS 3 3 1 (fun i => r1 (([] : List Int).getD i 0)) rfl ?_
  refine Sat.lp (fun k : Nat => ⟨[(5, vi .i64 k), (4, .c (ints (accL (htF L) l.length))), (3, .c (.ms 0 (fltL (slP L) k).length))], [(0, rowv 3 1 r1 0 (fltL (slP L) k))], 1⟩)
    (fun k => k ≤ l.length) (fun k => l.length - k) 0 [1] (Nat.zero_le _) ?_ ?_
  · refine ⟨rfl, ?_, ?_⟩ <;> (repeat' first | exact True.intro | exact VEq.refl _ | exact EEq.same _ | exact CEq.refl _ | exact VEq.int rfl | apply VEq.tru | apply VEq.fls | apply VEq.bool | apply VEq.int | exact VEq.nill rfl | exact VEq.zl rfl | exact VEq.nil | exact VEq.li_1 | exact VEq.li_2 | exact VEq.li_3 | exact VEq.li_4 | exact VEq.lp_1 | exact VEq.lp_2 | exact VEq.lp_3 | exact VEq.lp_4 | exact VEq.lt_1 | exact VEq.lt_2 | exact VEq.lt_3 | apply VEq.ms | apply VEq.sll | apply VEq.aggs | apply EEq.boxs | apply EEq.app1 | apply EEq.app2 | apply EEq.app3 | apply CEq.ms | apply CEq.int | apply CEq.sll | exact CEq.nill rfl | apply And.intro | exact rfl)
  · intro k hk
    refine Fork.dec (fun hlt => ?_) (fun hlt => ?_)
    · have hlt : k < l.length := by omega
      have hn := fltL_len (slP L) k
      have hs := fltL_succ (slP L) k
      have hg := accL_get (d := (0 : Int)) (htF L) hlt
      (repeat' first | (refine Owe.mk ?_ ?_; (· (first | trivial | omega | ((try simp only [R64, true_and, and_true, Int.toNat_natCast, List.length_cons, List.length_nil]); omega)))) | (refine Fork.same ?_; first | refine Fork.dec (fun h => ?_) (fun h => ?_) | refine Fork.ndec (fun h => ?_) (fun h => ?_) | refine Fork.mk (fun h => ?_) (fun h => ?_)) | refine MvQ.stay ?_ | refine Owe.mk ?_ ?_)
      · have h : (accL (htF L) l.length).getD k 0 ≤ 0 := h
        rw [hg] at h
        rw [if_pos (by exact decide_eq_true h)] at hs
        refine again (k + 1) [1] hlt (by omega) ?_
        refine ⟨rfl, ?_, ?_⟩ <;> (repeat' first | exact True.intro | exact VEq.refl _ | exact EEq.same _ | exact CEq.refl _ | exact VEq.int rfl | apply VEq.tru | apply VEq.fls | apply VEq.bool | apply VEq.int | exact VEq.nill rfl | exact VEq.zl rfl | exact VEq.nil | exact VEq.li_1 | exact VEq.li_2 | exact VEq.li_3 | exact VEq.li_4 | exact VEq.lp_1 | exact VEq.lp_2 | exact VEq.lp_3 | exact VEq.lp_4 | exact VEq.lt_1 | exact VEq.lt_2 | exact VEq.lt_3 | apply VEq.ms | apply VEq.sll | apply VEq.aggs | apply EEq.boxs | apply EEq.app1 | apply EEq.app2 | apply EEq.app3 | apply CEq.ms | apply CEq.int | apply CEq.sll | exact CEq.nill rfl | apply And.intro | exact rfl)
        · rw [hs]; simp
        · exact hs
      · have h : ¬ (accL (htF L) l.length).getD k 0 ≤ 0 := h
        rw [hg] at h
        rw [if_neg (by simp only [slP, decide_eq_true_eq]; exact h)] at hs
        refine again (k + 1) [0] hlt (by omega) ?_
        refine ⟨rfl, ?_, ?_⟩ <;> (repeat' first | exact True.intro | exact VEq.refl _ | exact EEq.same _ | exact CEq.refl _ | exact VEq.int rfl | apply VEq.tru | apply VEq.fls | apply VEq.bool | apply VEq.int | exact VEq.nill rfl | exact VEq.zl rfl | exact VEq.nil | exact VEq.li_1 | exact VEq.li_2 | exact VEq.li_3 | exact VEq.li_4 | exact VEq.lp_1 | exact VEq.lp_2 | exact VEq.lp_3 | exact VEq.lp_4 | exact VEq.lt_1 | exact VEq.lt_2 | exact VEq.lt_3 | apply VEq.ms | apply VEq.sll | apply VEq.aggs | apply EEq.boxs | apply EEq.app1 | apply EEq.app2 | apply EEq.app3 | apply CEq.ms | apply CEq.int | apply CEq.sll | exact CEq.nill rfl | apply And.intro | exact rfl)
        · rw [hs]
        · rw [hs]; exact EEq.same _
    · (repeat' first | (refine Owe.mk ?_ ?_; (· (first | trivial | omega | ((try simp only [R64, true_and, and_true, Int.toNat_natCast, List.length_cons, List.length_nil]); omega)))) | (refine Fork.same ?_; first | refine Fork.dec (fun h => ?_) (fun h => ?_) | refine Fork.ndec (fun h => ?_) (fun h => ?_) | refine Fork.mk (fun h => ?_) (fun h => ?_)) | refine MvQ.stay ?_ | refine Owe.mk ?_ ?_)
      have : k = l.length := by omega
      subst this
      refine RetQ.of (by first | exact .inr rfl | exact .inl rfl) rfl rfl ((Mv.freeze 0 _ rfl rfl (Nat.le_refl _)).trans (Mv.plain (by rfl) ?_)); (repeat' first | exact True.intro | exact VEq.refl _ | exact EEq.same _ | exact CEq.refl _ | exact VEq.int rfl | apply VEq.tru | apply VEq.fls | apply VEq.bool | apply VEq.int | exact VEq.nill rfl | exact VEq.zl rfl | exact VEq.nil | exact VEq.li_1 | exact VEq.li_2 | exact VEq.li_3 | exact VEq.li_4 | exact VEq.lp_1 | exact VEq.lp_2 | exact VEq.lp_3 | exact VEq.lp_4 | exact VEq.lt_1 | exact VEq.lt_2 | exact VEq.lt_3 | apply VEq.ms | apply VEq.sll | apply VEq.aggs | apply EEq.boxs | apply EEq.app1 | apply EEq.app2 | apply EEq.app3 | apply CEq.ms | apply CEq.int | apply CEq.sll | exact CEq.nill rfl | apply And.intro | exact rfl)
end Go.Pw

set_option linter.unusedSimpArgs false
namespace Go.Pw
open Go Go.Proofs
end Go.Pw

set_option linter.unusedSimpArgs false
namespace Go.Pw
open Go Go.Proofs
abbrev slkN (x z : Int) (l : List Lk) : Int := if (fltL (slP (stl x z l)) l.length).length = 0 then 0 else 21
theorem C60 {x z : Int} {l : List Lk} : LnOk x z l → PFD Try.prog 60 [.agg [int x, int z, trs l]] (vi .i64 (slkN x z l)) := fun h => by
  have c1 := C53 h
  have hl := fltL_len (slP (stl x z l)) l.length
  have hn := h.n
  simp only [slkN]
  generalize fltL (slP (stl x z l)) l.length = s at *
  refine PFD.of (vs := [_]) fn60 rfl (by (simp only [cloL, clo, cloC, cloCs, and_self])) ?_
  (repeat' first | (refine Owe.mk ?_ ?_; (· (first | trivial | omega | ((try simp only [R64, true_and, and_true, Int.toNat_natCast, List.length_cons, List.length_nil]); omega)))) | (refine Fork.same ?_; first | refine Fork.dec (fun h => ?_) (fun h => ?_) | refine Fork.ndec (fun h => ?_) (fun h => ?_) | refine Fork.mk (fun h => ?_) (fun h => ?_)) | (refine OpsL.same ?_; first | refine Ops.pc rfl (Fits.eq rfl) c1 rfl ?_ | (refine Ops.pcp rfl (Fits.eq rfl) c1 rfl ?_ ?_; (· (first | trivial | omega | ((try simp only [R64, true_and, and_true, Int.toNat_natCast, List.length_cons, List.length_nil]); omega)))) ) | (refine OpsDL.same ?_; first | refine OpsD.pc rfl (Fits.eq rfl) c1 rfl ?_ | (refine OpsD.pcp rfl (Fits.eq rfl) c1 rfl ?_ ?_; (· (first | trivial | omega | ((try simp only [R64, true_and, and_true, Int.toNat_natCast, List.length_cons, List.length_nil]); omega)))) ) | refine MvQ.stay ?_ | refine Owe.mk ?_ ?_)
  · (refine RetQ.plain (Nat.le_refl _) (by first | exact .inr rfl | exact .inl rfl) rfl (by (simp only [cloL, clo, cloC, cloCs, and_self])) ?_; (repeat' first | exact True.intro | exact VEq.refl _ | exact EEq.same _ | exact CEq.refl _ | exact VEq.int rfl | apply VEq.tru | apply VEq.fls | apply VEq.bool | apply VEq.int | exact VEq.nill rfl | exact VEq.zl rfl | exact VEq.nil | exact VEq.li_1 | exact VEq.li_2 | exact VEq.li_3 | exact VEq.li_4 | exact VEq.lp_1 | exact VEq.lp_2 | exact VEq.lp_3 | exact VEq.lp_4 | exact VEq.lt_1 | exact VEq.lt_2 | exact VEq.lt_3 | apply VEq.ms | apply VEq.sll | apply VEq.aggs | apply EEq.boxs | apply EEq.app1 | apply EEq.app2 | apply EEq.app3 | apply CEq.ms | apply CEq.int | apply CEq.sll | exact CEq.nill rfl | apply And.intro | exact rfl)); rw [if_neg (by omega)]
  · (refine RetQ.plain (Nat.le_refl _) (by first | exact .inr rfl | exact .inl rfl) rfl (by (simp only [cloL, clo, cloC, cloCs, and_self])) ?_; (repeat' first | exact True.intro | exact VEq.refl _ | exact EEq.same _ | exact CEq.refl _ | exact VEq.int rfl | apply VEq.tru | apply VEq.fls | apply VEq.bool | apply VEq.int | exact VEq.nill rfl | exact VEq.zl rfl | exact VEq.nil | exact VEq.li_1 | exact VEq.li_2 | exact VEq.li_3 | exact VEq.li_4 | exact VEq.lp_1 | exact VEq.lp_2 | exact VEq.lp_3 | exact VEq.lp_4 | exact VEq.lt_1 | exact VEq.lt_2 | exact VEq.lt_3 | apply VEq.ms | apply VEq.sll | apply VEq.aggs | apply EEq.boxs | apply EEq.app1 | apply EEq.app2 | apply EEq.app3 | apply CEq.ms | apply CEq.int | apply CEq.sll | exact CEq.nill rfl | apply And.intro | exact rfl)); rw [if_pos (by omega)]
theorem C122 {g : Int} {t : Rg} : ((1 ≤ g ∧ g ≤ 1000) ∧ tnOk t) → PFD Try.prog 122 [vi .i64 g, .agg [int t.1, int t.2]] (.agg [int (frac (g * t.1) t.2).1, int (frac (g * t.1) t.2).2]) := fun ⟨h1, h2, h3⟩ => by
  have h4 := mbd (A := 1000) (B := 20000) (a := g) (b := t.1) (by omega) h2
  have c1 := C121 (n := g * t.1) (d := t.2) (by omega)
  obtain ⟨f, hf⟩ : ∃ f, f = frac (g * t.1) t.2 := ⟨_, rfl⟩
  rw [← hf] at c1 ⊢
  refine PFD.of (vs := [_]) fn122 rfl (by (simp only [cloL, clo, cloC, cloCs, and_self])) ?_
  (repeat' first | (refine Owe.mk ?_ ?_; (· (first | trivial | omega | ((try simp only [R64, true_and, and_true, Int.toNat_natCast, List.length_cons, List.length_nil]); omega)))) | (refine Fork.same ?_; first | refine Fork.dec (fun h => ?_) (fun h => ?_) | refine Fork.ndec (fun h => ?_) (fun h => ?_) | refine Fork.mk (fun h => ?_) (fun h => ?_)) | (refine OpsL.same ?_; first | refine Ops.pc rfl (Fits.eq rfl) c1 rfl ?_ | (refine Ops.pcp rfl (Fits.eq rfl) c1 rfl ?_ ?_; (· (first | trivial | omega | ((try simp only [R64, true_and, and_true, Int.toNat_natCast, List.length_cons, List.length_nil]); omega)))) ) | (refine OpsDL.same ?_; first | refine OpsD.pc rfl (Fits.eq rfl) c1 rfl ?_ | (refine OpsD.pcp rfl (Fits.eq rfl) c1 rfl ?_ ?_; (· (first | trivial | omega | ((try simp only [R64, true_and, and_true, Int.toNat_natCast, List.length_cons, List.length_nil]); omega)))) ) | refine MvQ.stay ?_ | refine Owe.mk ?_ ?_)
  (refine RetQ.plain (Nat.le_refl _) (by first | exact .inr rfl | exact .inl rfl) rfl (by (simp only [cloL, clo, cloC, cloCs, and_self])) ?_; (repeat' first | exact True.intro | exact VEq.refl _ | exact EEq.same _ | exact CEq.refl _ | exact VEq.int rfl | apply VEq.tru | apply VEq.fls | apply VEq.bool | apply VEq.int | exact VEq.nill rfl | exact VEq.zl rfl | exact VEq.nil | exact VEq.li_1 | exact VEq.li_2 | exact VEq.li_3 | exact VEq.li_4 | exact VEq.lp_1 | exact VEq.lp_2 | exact VEq.lp_3 | exact VEq.lp_4 | exact VEq.lt_1 | exact VEq.lt_2 | exact VEq.lt_3 | apply VEq.ms | apply VEq.sll | apply VEq.aggs | apply EEq.boxs | apply EEq.app1 | apply EEq.app2 | apply EEq.app3 | apply CEq.ms | apply CEq.int | apply CEq.sll | exact CEq.nill rfl | apply And.intro | exact rfl))
theorem C63 {x z : Int} {l : List Lk} {c : List Int} : (opL x z l c).Tight → PFD Try.prog 63 [.agg [int x, int z, trs l], .c (ints c)] (.c (prs (accL (ofF (opL x z l c)) l.length))) := fun hT => by
  have hL := hT.toOk
  have c1 := C40 hL
  have hn : 0 < l.length ∧ l.length ≤ 10 := hL.k.n
  have hlen := accL_len (tnF (opL x z l c)) l.length
  have ht : ∀ i, i < l.length → tnOk ((accL (tnF (opL x z l c)) l.length).getD i (0, 0)) := fun i hi => tn_ok hT (by rw [accL_len]; exact hi)
  have hg : ∀ i, i < l.length → (accL (tnF (opL x z l c)) l.length).getD i (0, 0) = tnF (opL x z l c) i := fun i hi => accL_get _ hi
  obtain ⟨L, hLe⟩ : ∃ L, L = opL x z l c := ⟨_, rfl⟩
  have hlk : ∀ i, i < l.length → 1 ≤ (l.getD i (0, 0, 0)).1 ∧ (l.getD i (0, 0, 0)).1 ≤ 1000 := fun i hi => (hL.lk hi).1
  have hh : ∀ i, L.h i = (l.getD i (0, 0, 0)).1 := fun i => by rw [hLe]; rfl
  rw [← hLe] at c1 ht hg hlen ⊢
  generalize accL (tnF L) l.length = T at *
  refine PFD.of (vs := [_]) fn63 rfl (by (simp only [cloL, clo, cloC, cloCs, and_self])) ?_
  (repeat' first | (refine Owe.mk ?_ ?_; (· (first | trivial | omega | ((try simp only [R64, true_and, and_true, Int.toNat_natCast, List.length_cons, List.length_nil]); omega)))) | (refine Fork.same ?_; first | refine Fork.dec (fun h => ?_) (fun h => ?_) | refine Fork.ndec (fun h => ?_) (fun h => ?_) | refine Fork.mk (fun h => ?_) (fun h => ?_)) | (refine OpsL.same ?_; first | refine Ops.pc rfl (Fits.eq rfl) c1 rfl ?_ | (refine Ops.pcp rfl (Fits.eq rfl) c1 rfl ?_ ?_; (· (first | trivial | omega | ((try simp only [R64, true_and, and_true, Int.toNat_natCast, List.length_cons, List.length_nil]); omega)))) ) | (refine OpsDL.same ?_; first | refine OpsD.pc rfl (Fits.eq rfl) c1 rfl ?_ | (refine OpsD.pcp rfl (Fits.eq rfl) c1 rfl ?_ ?_; (· (first | trivial | omega | ((try simp only [R64, true_and, and_true, Int.toNat_natCast, List.length_cons, List.length_nil]); omega)))) ) | refine MvQ.stay ?_ | refine Owe.mk ?_ ?_)
  refine Sat.nilS 5 89 2 (fun i => r2 (([] : List Rg).getD i (0, 0))) rfl ?_
  refine Sat.lp (fun k : Nat => ⟨[(7, vi .i64 k), (6, .c (prs T)), (5, .c (.ms 1 (accL (ofF L) k).length)), (2, .c (.bp 0 0))], [(1, rowv 89 2 r2 (0, 0) (accL (ofF L) k)), (0, .box [int x, int z, trs l])], 2⟩)
    (fun k => k ≤ l.length) (fun k => l.length - k) 0 [0, 1] (Nat.zero_le _) ?_ ?_
  · refine ⟨rfl, ?_, ?_⟩ <;> (repeat' first | exact True.intro | exact VEq.refl _ | exact EEq.same _ | exact CEq.refl _ | exact VEq.int rfl | apply VEq.tru | apply VEq.fls | apply VEq.bool | apply VEq.int | exact VEq.nill rfl | exact VEq.zl rfl | exact VEq.nil | exact VEq.li_1 | exact VEq.li_2 | exact VEq.li_3 | exact VEq.li_4 | exact VEq.lp_1 | exact VEq.lp_2 | exact VEq.lp_3 | exact VEq.lp_4 | exact VEq.lt_1 | exact VEq.lt_2 | exact VEq.lt_3 | apply VEq.ms | apply VEq.sll | apply VEq.aggs | apply EEq.boxs | apply EEq.app1 | apply EEq.app2 | apply EEq.app3 | apply CEq.ms | apply CEq.int | apply CEq.sll | exact CEq.nill rfl | apply And.intro | exact rfl)
  · intro k hk
    have hm := accL_len (ofF L) k
    have hs := accL_succ (ofF L) k
    refine Fork.dec (fun hlt => ?_) (fun hlt => ?_)
    · have hlt : k < l.length := by omega
      have c2 := C122 (g := (l.getD k (0, 0, 0)).1) (t := T.getD k (0, 0)) ⟨hlk k hlt, ht k hlt⟩
      obtain ⟨f, hf⟩ : ∃ f, f = ofF L k := ⟨_, rfl⟩
      have hfe : frac ((l.getD k (0, 0, 0)).1 * (T.getD k (0, 0)).1) (T.getD k (0, 0)).2 = f := by rw [hf, hg k hlt, ofF, hh]
      rw [hfe] at c2
      rw [← hf] at hs
      (repeat' first | (refine Owe.mk ?_ ?_; (· (first | trivial | omega | ((try simp only [R64, true_and, and_true, Int.toNat_natCast, List.length_cons, List.length_nil]); omega)))) | (refine Fork.same ?_; first | refine Fork.dec (fun h => ?_) (fun h => ?_) | refine Fork.ndec (fun h => ?_) (fun h => ?_) | refine Fork.mk (fun h => ?_) (fun h => ?_)) | (refine OpsL.same ?_; first | refine Ops.pc rfl (Fits.eq rfl) c2 rfl ?_ | (refine Ops.pcp rfl (Fits.eq rfl) c2 rfl ?_ ?_; (· (first | trivial | omega | ((try simp only [R64, true_and, and_true, Int.toNat_natCast, List.length_cons, List.length_nil]); omega)))) ) | (refine OpsDL.same ?_; first | refine OpsD.pc rfl (Fits.eq rfl) c2 rfl ?_ | (refine OpsD.pcp rfl (Fits.eq rfl) c2 rfl ?_ ?_; (· (first | trivial | omega | ((try simp only [R64, true_and, and_true, Int.toNat_natCast, List.length_cons, List.length_nil]); omega)))) ) | refine MvQ.stay ?_ | refine Owe.mk ?_ ?_)
      refine again (k + 1) [0, 14] hlt (by omega) ?_
      refine ⟨rfl, ?_, ?_⟩ <;> (repeat' first | exact True.intro | exact VEq.refl _ | exact EEq.same _ | exact CEq.refl _ | exact VEq.int rfl | apply VEq.tru | apply VEq.fls | apply VEq.bool | apply VEq.int | exact VEq.nill rfl | exact VEq.zl rfl | exact VEq.nil | exact VEq.li_1 | exact VEq.li_2 | exact VEq.li_3 | exact VEq.li_4 | exact VEq.lp_1 | exact VEq.lp_2 | exact VEq.lp_3 | exact VEq.lp_4 | exact VEq.lt_1 | exact VEq.lt_2 | exact VEq.lt_3 | apply VEq.ms | apply VEq.sll | apply VEq.aggs | apply EEq.boxs | apply EEq.app1 | apply EEq.app2 | apply EEq.app3 | apply CEq.ms | apply CEq.int | apply CEq.sll | exact CEq.nill rfl | apply And.intro | exact rfl)
      · rw [hs]; simp
      · exact hs
    · (repeat' first | (refine Owe.mk ?_ ?_; (· (first | trivial | omega | ((try simp only [R64, true_and, and_true, Int.toNat_natCast, List.length_cons, List.length_nil]); omega)))) | (refine Fork.same ?_; first | refine Fork.dec (fun h => ?_) (fun h => ?_) | refine Fork.ndec (fun h => ?_) (fun h => ?_) | refine Fork.mk (fun h => ?_) (fun h => ?_)) | refine MvQ.stay ?_ | refine Owe.mk ?_ ?_)
      have : k = l.length := by omega
      subst this
      refine RetQ.of (by first | exact .inr rfl | exact .inl rfl) rfl rfl ((Mv.freeze 0 _ rfl rfl (Nat.le_refl _)).trans (Mv.plain (by rfl) ?_)); (repeat' first | exact True.intro | exact VEq.refl _ | exact EEq.same _ | exact CEq.refl _ | exact VEq.int rfl | apply VEq.tru | apply VEq.fls | apply VEq.bool | apply VEq.int | exact VEq.nill rfl | exact VEq.zl rfl | exact VEq.nil | exact VEq.li_1 | exact VEq.li_2 | exact VEq.li_3 | exact VEq.li_4 | exact VEq.lp_1 | exact VEq.lp_2 | exact VEq.lp_3 | exact VEq.lp_4 | exact VEq.lt_1 | exact VEq.lt_2 | exact VEq.lt_3 | apply VEq.ms | apply VEq.sll | apply VEq.aggs | apply EEq.boxs | apply EEq.app1 | apply EEq.app2 | apply EEq.app3 | apply CEq.ms | apply CEq.int | apply CEq.sll | exact CEq.nill rfl | apply And.intro | exact rfl)
theorem C61 {x z : Int} {l : List Lk} {c : List Int} : (opL x z l c).Tight → PFD Try.prog 61 [.agg [int x, int z, trs l], .c (ints c)] (.c (prs (bdL (accL (tnF (opL x z l c)) l.length)))) := fun hT => by
  have hL := hT.toOk
  have c1 := C40 hL
  have hn : 0 < l.length ∧ l.length ≤ 10 := hL.k.n
  have hlen := accL_len (tnF (opL x z l c)) l.length
  have ht : ∀ i, i < l.length → tnOk ((accL (tnF (opL x z l c)) l.length).getD i (0, 0)) := fun i hi => tn_ok hT (by rw [accL_len]; exact hi)
  generalize accL (tnF (opL x z l c)) l.length = T at *
  refine PFD.of (vs := [_]) fn61 rfl (by (simp only [cloL, clo, cloC, cloCs, and_self])) ?_
  (repeat' first | (refine Owe.mk ?_ ?_; (· (first | trivial | omega | ((try simp only [R64, true_and, and_true, Int.toNat_natCast, List.length_cons, List.length_nil]); omega)))) | (refine Fork.same ?_; first | refine Fork.dec (fun h => ?_) (fun h => ?_) | refine Fork.ndec (fun h => ?_) (fun h => ?_) | refine Fork.mk (fun h => ?_) (fun h => ?_)) | (refine OpsL.same ?_; first | refine Ops.pc rfl (Fits.eq rfl) c1 rfl ?_ | (refine Ops.pcp rfl (Fits.eq rfl) c1 rfl ?_ ?_; (· (first | trivial | omega | ((try simp only [R64, true_and, and_true, Int.toNat_natCast, List.length_cons, List.length_nil]); omega)))) ) | (refine OpsDL.same ?_; first | refine OpsD.pc rfl (Fits.eq rfl) c1 rfl ?_ | (refine OpsD.pcp rfl (Fits.eq rfl) c1 rfl ?_ ?_; (· (first | trivial | omega | ((try simp only [R64, true_and, and_true, Int.toNat_natCast, List.length_cons, List.length_nil]); omega)))) ) | refine MvQ.stay ?_ | refine Owe.mk ?_ ?_)
  refine Sat.nilS 5 89 2 (fun i => r2 (([] : List Rg).getD i (0, 0))) rfl ?_
  refine Sat.lp (fun k : Nat => ⟨[(7, vi .i64 (k + 1)), (6, .c (prs T)), (5, .c (.ms 0 (accL (bdF T) k).length))], [(0, rowv 89 2 r2 (0, 0) (accL (bdF T) k))], 1⟩)
    (fun k => k + 1 ≤ l.length) (fun k => l.length - k) 0 [1] (by omega) ?_ ?_
  · refine ⟨rfl, ?_, ?_⟩ <;> (repeat' first | exact True.intro | exact VEq.refl _ | exact EEq.same _ | exact CEq.refl _ | exact VEq.int rfl | apply VEq.tru | apply VEq.fls | apply VEq.bool | apply VEq.int | exact VEq.nill rfl | exact VEq.zl rfl | exact VEq.nil | exact VEq.li_1 | exact VEq.li_2 | exact VEq.li_3 | exact VEq.li_4 | exact VEq.lp_1 | exact VEq.lp_2 | exact VEq.lp_3 | exact VEq.lp_4 | exact VEq.lt_1 | exact VEq.lt_2 | exact VEq.lt_3 | apply VEq.ms | apply VEq.sll | apply VEq.aggs | apply EEq.boxs | apply EEq.app1 | apply EEq.app2 | apply EEq.app3 | apply CEq.ms | apply CEq.int | apply CEq.sll | exact CEq.nill rfl | apply And.intro | exact rfl)
  · intro k hk
    have hm := accL_len (bdF T) k
    have hs := accL_succ (bdF T) k
    refine Fork.dec (fun hlt => ?_) (fun hlt => ?_)
    · have hlt : k + 1 < l.length := by omega
      have ha := ht (k + 1) hlt
      have hb := ht k (by omega)
      have e1 : ((k : Int) + 1).toNat = k + 1 := by omega
      have e2 : ((k : Int) + 1 - 1).toNat = k := by omega
      obtain ⟨a, hae⟩ : ∃ a, a = T.getD ((k : Int) + 1).toNat (0, 0) := ⟨_, rfl⟩
      obtain ⟨b, hbe⟩ : ∃ b, b = T.getD ((k : Int) + 1 - 1).toNat (0, 0) := ⟨_, rfl⟩
      have hfe : bdF T k = bendF a b := by rw [hae, hbe, e1, e2]
      rw [← e1, ← hae] at ha
      have hb : tnOk b := by rw [hbe, e2]; exact hb
      have h1 := mbd (A := 20000) (B := 20000) (a := b.1) (b := a.2) hb.1 (by omega)
      have h2 := mbd (A := 20000) (B := 20000) (a := a.1) (b := b.2) ha.1 (by omega)
      have h3 := mbd (A := 800000000) (B := 800000000) (a := trnI a b) (b := trnI a b) (by simp only [trnI]; omega) (by simp only [trnI]; omega)
      have h4 := sq_bd ha
      have h5 := sq_bd hb
      have h6 := mbd (A := 800000000) (B := 800000000) (a := sqI b) (b := sqI a) (by omega) (by omega)
      have h7 : 0 < sqI b * sqI a := Int.mul_pos h5.1 h4.1
      have c6 := C121 (n := trnI a b * trnI a b) (d := sqI b * sqI a) (by omega)
      obtain ⟨f, hf⟩ : ∃ f, f = bendF a b := ⟨_, rfl⟩
      rw [show frac (trnI a b * trnI a b) (sqI b * sqI a) = f by rw [hf, bendF, Int.mul_comm (sqI a)]] at c6
      rw [hfe, ← hf] at hs
      obtain ⟨ha1, ha2⟩ := ha
      obtain ⟨hb1, hb2⟩ := hb
      subst hae
      subst hbe
      simp only [trnI] at h3 c6
      (repeat' first | (refine Owe.mk ?_ ?_; (· (first | trivial | omega | ((try simp only [R64, true_and, and_true, Int.toNat_natCast, List.length_cons, List.length_nil]); omega)))) | (refine Fork.same ?_; first | refine Fork.dec (fun h => ?_) (fun h => ?_) | refine Fork.ndec (fun h => ?_) (fun h => ?_) | refine Fork.mk (fun h => ?_) (fun h => ?_)) | (refine OpsL.same ?_; first | refine Ops.pc rfl (Fits.eq rfl) C101 rfl ?_ | (refine Ops.pcp rfl (Fits.eq rfl) C101 rfl ?_ ?_; (· (first | trivial | omega | ((try simp only [R64, true_and, and_true, Int.toNat_natCast, List.length_cons, List.length_nil]); omega)))) | refine Ops.pc rfl (Fits.eq rfl) c6 rfl ?_ | (refine Ops.pcp rfl (Fits.eq rfl) c6 rfl ?_ ?_; (· (first | trivial | omega | ((try simp only [R64, true_and, and_true, Int.toNat_natCast, List.length_cons, List.length_nil]); omega)))) ) | (refine OpsDL.same ?_; first | refine OpsD.pc rfl (Fits.eq rfl) C101 rfl ?_ | (refine OpsD.pcp rfl (Fits.eq rfl) C101 rfl ?_ ?_; (· (first | trivial | omega | ((try simp only [R64, true_and, and_true, Int.toNat_natCast, List.length_cons, List.length_nil]); omega)))) | refine OpsD.pc rfl (Fits.eq rfl) c6 rfl ?_ | (refine OpsD.pcp rfl (Fits.eq rfl) c6 rfl ?_ ?_; (· (first | trivial | omega | ((try simp only [R64, true_and, and_true, Int.toNat_natCast, List.length_cons, List.length_nil]); omega)))) ) | refine MvQ.stay ?_ | refine Owe.mk ?_ ?_)
      refine again (k + 1) [42] (by omega) (by omega) ?_
      refine ⟨rfl, ?_, ?_⟩ <;> (repeat' first | exact True.intro | exact VEq.refl _ | exact EEq.same _ | exact CEq.refl _ | exact VEq.int rfl | apply VEq.tru | apply VEq.fls | apply VEq.bool | apply VEq.int | exact VEq.nill rfl | exact VEq.zl rfl | exact VEq.nil | exact VEq.li_1 | exact VEq.li_2 | exact VEq.li_3 | exact VEq.li_4 | exact VEq.lp_1 | exact VEq.lp_2 | exact VEq.lp_3 | exact VEq.lp_4 | exact VEq.lt_1 | exact VEq.lt_2 | exact VEq.lt_3 | apply VEq.ms | apply VEq.sll | apply VEq.aggs | apply EEq.boxs | apply EEq.app1 | apply EEq.app2 | apply EEq.app3 | apply CEq.ms | apply CEq.int | apply CEq.sll | exact CEq.nill rfl | apply And.intro | exact rfl)
      · rw [hs]; simp
      · exact hs
    · (repeat' first | (refine Owe.mk ?_ ?_; (· (first | trivial | omega | ((try simp only [R64, true_and, and_true, Int.toNat_natCast, List.length_cons, List.length_nil]); omega)))) | (refine Fork.same ?_; first | refine Fork.dec (fun h => ?_) (fun h => ?_) | refine Fork.ndec (fun h => ?_) (fun h => ?_) | refine Fork.mk (fun h => ?_) (fun h => ?_)) | refine MvQ.stay ?_ | refine Owe.mk ?_ ?_)
      have : k = l.length - 1 := by omega
      subst this
      have : T.length - 1 = l.length - 1 := by omega
      rw [bdL, this]
      refine RetQ.of (by first | exact .inr rfl | exact .inl rfl) rfl rfl ((Mv.freeze 0 _ rfl rfl (Nat.le_refl _)).trans (Mv.plain (by rfl) ?_)); (repeat' first | exact True.intro | exact VEq.refl _ | exact EEq.same _ | exact CEq.refl _ | exact VEq.int rfl | apply VEq.tru | apply VEq.fls | apply VEq.bool | apply VEq.int | exact VEq.nill rfl | exact VEq.zl rfl | exact VEq.nil | exact VEq.li_1 | exact VEq.li_2 | exact VEq.li_3 | exact VEq.li_4 | exact VEq.lp_1 | exact VEq.lp_2 | exact VEq.lp_3 | exact VEq.lp_4 | exact VEq.lt_1 | exact VEq.lt_2 | exact VEq.lt_3 | apply VEq.ms | apply VEq.sll | apply VEq.aggs | apply EEq.boxs | apply EEq.app1 | apply EEq.app2 | apply EEq.app3 | apply CEq.ms | apply CEq.int | apply CEq.sll | exact CEq.nill rfl | apply And.intro | exact rfl)
theorem frac_pos {n d M : Int} (hn : 0 ≤ n ∧ n ≤ M) (hd : 0 < d ∧ d ≤ M) : (0 < (frac n d).2 ∧ (frac n d).2 ≤ M) ∧ 0 ≤ (frac n d).1 ∧ (frac n d).1 ≤ M := by
  have hg := gcd_pos (n := n) hd.1
  have h1 : 0 < d.tdiv (gcdI n d) := by
    rw [Int.tdiv_eq_ediv_of_nonneg (by omega)]
    exact Int.ediv_pos_of_pos_of_dvd hd.1 (by omega) (Int.gcd_dvd_right ..)
  exact ⟨⟨h1, (tdiv_nn (b := gcdI n d) (a := d) (M := M) (by omega) (by omega)).2⟩, tdiv_nn hn (by omega)⟩
abbrev frP (a : Rg) : Prop := (0 < a.2 ∧ a.2 ≤ 4611686018427387904) ∧ 0 ≤ a.1 ∧ a.1 ≤ 4611686018427387904
theorem bend_pos {a b : Rg} (ha : tnOk a) (hb : tnOk b) : frP (bendF a b) := by
  have h1 := mbd (A := 20000) (B := 20000) (a := b.1) (b := a.2) hb.1 (by omega)
  have h2 := mbd (A := 20000) (B := 20000) (a := a.1) (b := b.2) ha.1 (by omega)
  have h3 := mbd (A := 800000000) (B := 800000000) (a := trnI a b) (b := trnI a b) (by simp only [trnI]; omega) (by simp only [trnI]; omega)
  have h4 := sq_bd ha
  have h5 := sq_bd hb
  have h6 := mbd (A := 800000000) (B := 800000000) (a := sqI a) (b := sqI b) (by omega) (by omega)
  have h7 : 0 < sqI a * sqI b := Int.mul_pos h4.1 h5.1
  have h8 := mul_self_nn (trnI a b)
  exact frac_pos (by omega) (by omega)
theorem bdL_pos {T : List Rg} (h : ∀ i, i < T.length → tnOk (T.getD i (0, 0))) {i : Nat} (hi : i < (bdL T).length) : frP ((bdL T).getD i (0, 0)) := by
  rw [bdL_len] at hi
  rw [bdL, accL_get _ hi]
  exact bend_pos (h _ (by omega)) (h _ (by omega))
theorem C66 {x z : Int} {l : List Lk} {c : List Int} : (opL x z l c).Tight → PFD Try.prog 66 [.agg [int x, int z, trs l], .c (ints c)]
    (.tup [vi .i64 ((shI (bdL (accL (tnF (opL x z l c)) l.length)) (bdL (accL (tnF (opL x z l c)) l.length)).length : Nat) : Int), vbl (decide (0 < (bdL (accL (tnF (opL x z l c)) l.length)).length))]) := fun hT => by
  have c1 := C61 hT
  have hn : 0 < l.length ∧ l.length ≤ 10 := hT.toOk.k.n
  have hb : ∀ i, i < (bdL (accL (tnF (opL x z l c)) l.length)).length → frP ((bdL (accL (tnF (opL x z l c)) l.length)).getD i (0, 0)) := fun i hi => bdL_pos (fun i hi => tn_ok hT hi) hi
  have hlen : (bdL (accL (tnF (opL x z l c)) l.length)).length = l.length - 1 := by rw [bdL_len, accL_len]
  generalize bdL (accL (tnF (opL x z l c)) l.length) = B at *
  refine PFD.of (vs := [_, _]) fn66 rfl (by (simp only [cloL, clo, cloC, cloCs, and_self])) ?_
  (repeat' first | (refine Owe.mk ?_ ?_; (· (first | trivial | omega | ((try simp only [R64, true_and, and_true, Int.toNat_natCast, List.length_cons, List.length_nil]); omega)))) | (refine Fork.same ?_; first | refine Fork.dec (fun h => ?_) (fun h => ?_) | refine Fork.ndec (fun h => ?_) (fun h => ?_) | refine Fork.mk (fun h => ?_) (fun h => ?_)) | (refine OpsL.same ?_; first | refine Ops.pc rfl (Fits.eq rfl) c1 rfl ?_ | (refine Ops.pcp rfl (Fits.eq rfl) c1 rfl ?_ ?_; (· (first | trivial | omega | ((try simp only [R64, true_and, and_true, Int.toNat_natCast, List.length_cons, List.length_nil]); omega)))) ) | (refine OpsDL.same ?_; first | refine OpsD.pc rfl (Fits.eq rfl) c1 rfl ?_ | (refine OpsD.pcp rfl (Fits.eq rfl) c1 rfl ?_ ?_; (· (first | trivial | omega | ((try simp only [R64, true_and, and_true, Int.toNat_natCast, List.length_cons, List.length_nil]); omega)))) ) | refine MvQ.stay ?_ | refine Owe.mk ?_ ?_)
  · have : B.length = 0 := by omega
    (refine RetQ.plain (Nat.le_refl _) (by first | exact .inr rfl | exact .inl rfl) rfl (by (simp only [cloL, clo, cloC, cloCs, and_self])) ?_; (repeat' first | exact True.intro | exact VEq.refl _ | exact EEq.same _ | exact CEq.refl _ | exact VEq.int rfl | apply VEq.tru | apply VEq.fls | apply VEq.bool | apply VEq.int | exact VEq.nill rfl | exact VEq.zl rfl | exact VEq.nil | exact VEq.li_1 | exact VEq.li_2 | exact VEq.li_3 | exact VEq.li_4 | exact VEq.lp_1 | exact VEq.lp_2 | exact VEq.lp_3 | exact VEq.lp_4 | exact VEq.lt_1 | exact VEq.lt_2 | exact VEq.lt_3 | apply VEq.ms | apply VEq.sll | apply VEq.aggs | apply EEq.boxs | apply EEq.app1 | apply EEq.app2 | apply EEq.app3 | apply CEq.ms | apply CEq.int | apply CEq.sll | exact CEq.nill rfl | apply And.intro | exact rfl))
    · rw [this]; rfl
    · exact decide_eq_false (by omega)
  · refine Sat.lp (fun k : Nat => ⟨[(8, vi .i64 k), (6, .c (prs B)), (7, vi .i64 ((shI B k : Nat) : Int))], [], 0⟩)
      (fun k => k ≤ B.length) (fun k => B.length - k) 0 [] (Nat.zero_le _) ?_ ?_
    · refine ⟨rfl, ?_, ?_⟩ <;> (repeat' first | exact True.intro | exact VEq.refl _ | exact EEq.same _ | exact CEq.refl _ | exact VEq.int rfl | apply VEq.tru | apply VEq.fls | apply VEq.bool | apply VEq.int | exact VEq.nill rfl | exact VEq.zl rfl | exact VEq.nil | exact VEq.li_1 | exact VEq.li_2 | exact VEq.li_3 | exact VEq.li_4 | exact VEq.lp_1 | exact VEq.lp_2 | exact VEq.lp_3 | exact VEq.lp_4 | exact VEq.lt_1 | exact VEq.lt_2 | exact VEq.lt_3 | apply VEq.ms | apply VEq.sll | apply VEq.aggs | apply EEq.boxs | apply EEq.app1 | apply EEq.app2 | apply EEq.app3 | apply CEq.ms | apply CEq.int | apply CEq.sll | exact CEq.nill rfl | apply And.intro | exact rfl)
    · intro k hk
      have hs := shI_lt B (by omega) k hk
      refine Fork.dec (fun hlt => ?_) (fun hlt => ?_)
      · have hlt : k < B.length := by omega
        obtain ⟨f1, f2⟩ := hb _ hs
        obtain ⟨f3, f4⟩ := hb _ hlt
        have hq : 0 < cmpQ (B.getD k (0, 0)).1 (B.getD k (0, 0)).2 (B.getD (shI B k) (0, 0)).1 (B.getD (shI B k) (0, 0)).2 ↔ lessQ (B.getD (shI B k) (0, 0)) (B.getD k (0, 0)) = true := by
          simp only [cmpQ, lessQ, decide_eq_true_eq]; split <;> (try split) <;> omega
        have c2 := C126 (n := (B.getD k (0, 0)).1) (d := (B.getD k (0, 0)).2) (m := (B.getD (shI B k) (0, 0)).1) (k := (B.getD (shI B k) (0, 0)).2) (by omega)
        generalize hQ : cmpQ (B.getD k (0, 0)).1 (B.getD k (0, 0)).2 (B.getD (shI B k) (0, 0)).1 (B.getD (shI B k) (0, 0)).2 = Q at *
        (repeat' first | (refine Owe.mk ?_ ?_; (· (first | trivial | omega | ((try simp only [R64, true_and, and_true, Int.toNat_natCast, List.length_cons, List.length_nil]); omega)))) | (refine Fork.same ?_; first | refine Fork.dec (fun h => ?_) (fun h => ?_) | refine Fork.ndec (fun h => ?_) (fun h => ?_) | refine Fork.mk (fun h => ?_) (fun h => ?_)) | (refine OpsL.same ?_; first | refine Ops.pc rfl (Fits.eq rfl) c2 rfl ?_ | (refine Ops.pcp rfl (Fits.eq rfl) c2 rfl ?_ ?_; (· (first | trivial | omega | ((try simp only [R64, true_and, and_true, Int.toNat_natCast, List.length_cons, List.length_nil]); omega)))) ) | (refine OpsDL.same ?_; first | refine OpsD.pc rfl (Fits.eq rfl) c2 rfl ?_ | (refine OpsD.pcp rfl (Fits.eq rfl) c2 rfl ?_ ?_; (· (first | trivial | omega | ((try simp only [R64, true_and, and_true, Int.toNat_natCast, List.length_cons, List.length_nil]); omega)))) ) | refine MvQ.stay ?_ | refine Owe.mk ?_ ?_)
        · refine again (k + 1) [] (by omega) (by omega) ?_
          refine ⟨rfl, ?_, ?_⟩ <;> (repeat' first | exact True.intro | exact VEq.refl _ | exact EEq.same _ | exact CEq.refl _ | exact VEq.int rfl | apply VEq.tru | apply VEq.fls | apply VEq.bool | apply VEq.int | exact VEq.nill rfl | exact VEq.zl rfl | exact VEq.nil | exact VEq.li_1 | exact VEq.li_2 | exact VEq.li_3 | exact VEq.li_4 | exact VEq.lp_1 | exact VEq.lp_2 | exact VEq.lp_3 | exact VEq.lp_4 | exact VEq.lt_1 | exact VEq.lt_2 | exact VEq.lt_3 | apply VEq.ms | apply VEq.sll | apply VEq.aggs | apply EEq.boxs | apply EEq.app1 | apply EEq.app2 | apply EEq.app3 | apply CEq.ms | apply CEq.int | apply CEq.sll | exact CEq.nill rfl | apply And.intro | exact rfl)
          rw [shI, if_pos (hq.1 h)]
        · refine again (k + 1) [] (by omega) (by omega) ?_
          refine ⟨rfl, ?_, ?_⟩ <;> (repeat' first | exact True.intro | exact VEq.refl _ | exact EEq.same _ | exact CEq.refl _ | exact VEq.int rfl | apply VEq.tru | apply VEq.fls | apply VEq.bool | apply VEq.int | exact VEq.nill rfl | exact VEq.zl rfl | exact VEq.nil | exact VEq.li_1 | exact VEq.li_2 | exact VEq.li_3 | exact VEq.li_4 | exact VEq.lp_1 | exact VEq.lp_2 | exact VEq.lp_3 | exact VEq.lp_4 | exact VEq.lt_1 | exact VEq.lt_2 | exact VEq.lt_3 | apply VEq.ms | apply VEq.sll | apply VEq.aggs | apply EEq.boxs | apply EEq.app1 | apply EEq.app2 | apply EEq.app3 | apply CEq.ms | apply CEq.int | apply CEq.sll | exact CEq.nill rfl | apply And.intro | exact rfl)
          rw [shI, if_neg (fun hh => h (hq.2 hh))]
      · (repeat' first | (refine Owe.mk ?_ ?_; (· (first | trivial | omega | ((try simp only [R64, true_and, and_true, Int.toNat_natCast, List.length_cons, List.length_nil]); omega)))) | (refine Fork.same ?_; first | refine Fork.dec (fun h => ?_) (fun h => ?_) | refine Fork.ndec (fun h => ?_) (fun h => ?_) | refine Fork.mk (fun h => ?_) (fun h => ?_)) | refine MvQ.stay ?_ | refine Owe.mk ?_ ?_)
        have : k = B.length := by omega
        subst this
        (refine RetQ.plain (Nat.le_refl _) (by first | exact .inr rfl | exact .inl rfl) rfl (by (simp only [cloL, clo, cloC, cloCs, and_self])) ?_; (repeat' first | exact True.intro | exact VEq.refl _ | exact EEq.same _ | exact CEq.refl _ | exact VEq.int rfl | apply VEq.tru | apply VEq.fls | apply VEq.bool | apply VEq.int | exact VEq.nill rfl | exact VEq.zl rfl | exact VEq.nil | exact VEq.li_1 | exact VEq.li_2 | exact VEq.li_3 | exact VEq.li_4 | exact VEq.lp_1 | exact VEq.lp_2 | exact VEq.lp_3 | exact VEq.lp_4 | exact VEq.lt_1 | exact VEq.lt_2 | exact VEq.lt_3 | apply VEq.ms | apply VEq.sll | apply VEq.aggs | apply EEq.boxs | apply EEq.app1 | apply EEq.app2 | apply EEq.app3 | apply CEq.ms | apply CEq.int | apply CEq.sll | exact CEq.nill rfl | apply And.intro | exact rfl))
        exact decide_eq_true (by omega)
theorem frac_floor {n d : Int} (hd : 0 < d) : (frac n d).1 / (frac n d).2 = n / d := by
  have hg := gcd_pos (n := n) hd
  obtain ⟨a, ha⟩ : gcdI n d ∣ n := Int.gcd_dvd_left ..
  obtain ⟨b, hb⟩ : gcdI n d ∣ d := Int.gcd_dvd_right ..
  have e1 : n.tdiv (gcdI n d) = a := by
    have : (gcdI n d * a).tdiv (gcdI n d) = a := Int.mul_tdiv_cancel_left a (by omega)
    rwa [← ha] at this
  have e2 : d.tdiv (gcdI n d) = b := by
    have : (gcdI n d * b).tdiv (gcdI n d) = b := Int.mul_tdiv_cancel_left b (by omega)
    rwa [← hb] at this
  show n.tdiv (gcdI n d) / d.tdiv (gcdI n d) = n / d
  rw [e1, e2]
  have : gcdI n d * a / (gcdI n d * b) = a / b := Int.mul_ediv_mul_of_pos _ _ hg
  rw [← this, ← ha, ← hb]
theorem frac_neg {n d : Int} : (frac (-n) d).1 = -(frac n d).1 ∧ (frac (-n) d).2 = (frac n d).2 := by
  have e : gcdI (-n) d = gcdI n d := by show ((Nat.gcd (-n).natAbs d.natAbs : Nat) : Int) = _; rw [Int.natAbs_neg]; rfl
  exact ⟨by show (-n).tdiv (gcdI (-n) d) = -(n.tdiv (gcdI n d)); rw [e, Int.neg_tdiv], by show d.tdiv (gcdI (-n) d) = d.tdiv (gcdI n d); rw [e]⟩
theorem frac_ceil {n d : Int} (hd : 0 < d) : ceilI (frac n d).1 (frac n d).2 = ceilI n d := by
  have h := frac_floor (n := -n) hd
  rw [frac_neg.1, frac_neg.2] at h
  show -(-(frac n d).1 / (frac n d).2) = -(-n / d)
  rw [h]
theorem opL_ph {x z : Int} {l : List Lk} {c : List Int} (h : c.length = l.length) : ∀ k : Nat, k ≤ l.length → (opL x z l c).ph k = (opL x z l c).pl k
  | 0, _ => rfl
  | k + 1, hk => by
    have e : (opL x z l c).hi k = (opL x z l c).lo k := by simp only [Ln.hi, Ln.lo, dup_get (show k < c.length by omega)]
    show (opL x z l c).ph k + (opL x z l c).d k * (opL x z l c).hi k = (opL x z l c).pl k + (opL x z l c).d k * (opL x z l c).lo k
    rw [opL_ph h k (by omega), e]
theorem C64 {x z : Int} {l : List Lk} {c : List Int} : (opL x z l c).Tight → PFD Try.prog 64 [.agg [int x, int z, trs l], .c (ints c)] (.agg [int (laybk (opL x z l c)).1, int (laybk (opL x z l c)).2]) := fun hT => by
  have hL := hT.toOk
  have c1 := C63 hT
  have hn : 0 < l.length ∧ l.length ≤ 10 := hL.k.n
  have hcl : c.length = l.length := by have := hL.b; simpa using this
  have hlen := accL_len (ofF (opL x z l c)) l.length
  have hg : ∀ i, i < l.length → (accL (ofF (opL x z l c)) l.length).getD i (0, 0) = ofF (opL x z l c) i := fun i hi => accL_get _ hi
  have hf : ∀ i, i < l.length → (Md (ofF (opL x z l c) i).1 ∧ 0 < (ofF (opL x z l c) i).2) ∧ (ofF (opL x z l c) i).1 / (ofF (opL x z l c) i).2 = lbF (opL x z l c) i ∧ ceilI (ofF (opL x z l c) i).1 (ofF (opL x z l c) i).2 = ubF (opL x z l c) i := fun i hi => by
    have h1 := hT.t i hi
    have h2 := hT.hl hi
    have h3 := tdiv_bd (a := (opL x z l c).h i * (opL x z l c).pl (i + 1)) (b := gcdI ((opL x z l c).h i * (opL x z l c).pl (i + 1)) ((opL x z l c).pz (i + 1))) (M := 4611686018427387904) (by omega)
    refine ⟨⟨h3, ?_⟩, frac_floor h1, ?_⟩
    · have hgp := gcd_pos (n := (opL x z l c).h i * (opL x z l c).pl (i + 1)) h1
      show 0 < ((opL x z l c).pz (i + 1)).tdiv _
      rw [Int.tdiv_eq_ediv_of_nonneg (by omega)]
      exact Int.ediv_pos_of_pos_of_dvd h1 (by omega) (Int.gcd_dvd_right ..)
    · rw [frac_ceil h1]; simp only [ubF]; rw [opL_ph hcl _ (by omega)]
  have hlb : ∀ i, i < l.length → -20000000 ≤ lbF (opL x z l c) i ∧ lbF (opL x z l c) i ≤ 20000000 := fun i hi => hT.lb hi
  have hub : ∀ i, i < l.length → -20000000 ≤ ubF (opL x z l c) i ∧ ubF (opL x z l c) i ≤ 20000000 := fun i hi => hT.ub hi
  show PFD Try.prog 64 [.agg [int x, int z, trs l], .c (ints c)] (.agg [int (sumI (lbF (opL x z l c)) l.length), int (sumI (ubF (opL x z l c)) l.length)])
  generalize opL x z l c = L at *
  generalize accL (ofF L) l.length = F at *
  refine PFD.of (vs := [_]) fn64 rfl (by (simp only [cloL, clo, cloC, cloCs, and_self])) ?_
  (repeat' first | (refine Owe.mk ?_ ?_; (· (first | trivial | omega | ((try simp only [R64, true_and, and_true, Int.toNat_natCast, List.length_cons, List.length_nil]); omega)))) | (refine Fork.same ?_; first | refine Fork.dec (fun h => ?_) (fun h => ?_) | refine Fork.ndec (fun h => ?_) (fun h => ?_) | refine Fork.mk (fun h => ?_) (fun h => ?_)) | (refine OpsL.same ?_; first | refine Ops.pc rfl (Fits.eq rfl) c1 rfl ?_ | (refine Ops.pcp rfl (Fits.eq rfl) c1 rfl ?_ ?_; (· (first | trivial | omega | ((try simp only [R64, true_and, and_true, Int.toNat_natCast, List.length_cons, List.length_nil]); omega)))) ) | (refine OpsDL.same ?_; first | refine OpsD.pc rfl (Fits.eq rfl) c1 rfl ?_ | (refine OpsD.pcp rfl (Fits.eq rfl) c1 rfl ?_ ?_; (· (first | trivial | omega | ((try simp only [R64, true_and, and_true, Int.toNat_natCast, List.length_cons, List.length_nil]); omega)))) ) | refine MvQ.stay ?_ | refine Owe.mk ?_ ?_)
  refine Sat.lp (fun k : Nat => ⟨[(7, vi .i64 k), (6, .c (prs F)), (5, .c (.bp 2 0)), (4, .c (.bp 1 0))], [(2, .box [int (sumI (lbF L) k), int (sumI (ubF L) k)]), (1, .box [int 0, int 0])], 3⟩)
    (fun k => k ≤ l.length) (fun k => l.length - k) 0 [0, 1, 2] (Nat.zero_le _) ?_ ?_
  · refine ⟨rfl, ?_, ?_⟩ <;> (repeat' first | exact True.intro | exact VEq.refl _ | exact EEq.same _ | exact CEq.refl _ | exact VEq.int rfl | apply VEq.tru | apply VEq.fls | apply VEq.bool | apply VEq.int | exact VEq.nill rfl | exact VEq.zl rfl | exact VEq.nil | exact VEq.li_1 | exact VEq.li_2 | exact VEq.li_3 | exact VEq.li_4 | exact VEq.lp_1 | exact VEq.lp_2 | exact VEq.lp_3 | exact VEq.lp_4 | exact VEq.lt_1 | exact VEq.lt_2 | exact VEq.lt_3 | apply VEq.ms | apply VEq.sll | apply VEq.aggs | apply EEq.boxs | apply EEq.app1 | apply EEq.app2 | apply EEq.app3 | apply CEq.ms | apply CEq.int | apply CEq.sll | exact CEq.nill rfl | apply And.intro | exact rfl)
  · intro k hk
    refine Fork.dec (fun hlt => ?_) (fun hlt => ?_)
    · have hlt : k < l.length := by omega
      obtain ⟨h1, h2, h3⟩ := hf k hlt
      have h4 := hlb k hlt
      have h5 := hub k hlt
      have h6 := sumI_bd (f := lbF L) (M := 20000000) (n := l.length) hlb k hk
      have h7 := sumI_bd (f := ubF L) (M := 20000000) (n := l.length) hub k hk
      rw [← hg k hlt] at h1 h2 h3
      have c2 := C123 (n := (F.getD k (0, 0)).1) (b := (F.getD k (0, 0)).2) h1
      have c3 := C124 (n := (F.getD k (0, 0)).1) (b := (F.getD k (0, 0)).2) h1
      rw [h2] at c2
      rw [h3] at c3
      have e1 : sumI (lbF L) (k + 1) = sumI (lbF L) k + lbF L k := rfl
      have e2 : sumI (ubF L) (k + 1) = sumI (ubF L) k + ubF L k := rfl
      generalize lbF L k = p at *
      generalize ubF L k = q at *
      (repeat' first | (refine Owe.mk ?_ ?_; (· (first | trivial | omega | ((try simp only [R64, true_and, and_true, Int.toNat_natCast, List.length_cons, List.length_nil]); omega)))) | (refine Fork.same ?_; first | refine Fork.dec (fun h => ?_) (fun h => ?_) | refine Fork.ndec (fun h => ?_) (fun h => ?_) | refine Fork.mk (fun h => ?_) (fun h => ?_)) | (refine OpsL.same ?_; first | refine Ops.pc rfl (Fits.eq rfl) c2 rfl ?_ | (refine Ops.pcp rfl (Fits.eq rfl) c2 rfl ?_ ?_; (· (first | trivial | omega | ((try simp only [R64, true_and, and_true, Int.toNat_natCast, List.length_cons, List.length_nil]); omega)))) | refine Ops.pc rfl (Fits.eq rfl) c3 rfl ?_ | (refine Ops.pcp rfl (Fits.eq rfl) c3 rfl ?_ ?_; (· (first | trivial | omega | ((try simp only [R64, true_and, and_true, Int.toNat_natCast, List.length_cons, List.length_nil]); omega)))) ) | (refine OpsDL.same ?_; first | refine OpsD.pc rfl (Fits.eq rfl) c2 rfl ?_ | (refine OpsD.pcp rfl (Fits.eq rfl) c2 rfl ?_ ?_; (· (first | trivial | omega | ((try simp only [R64, true_and, and_true, Int.toNat_natCast, List.length_cons, List.length_nil]); omega)))) | refine OpsD.pc rfl (Fits.eq rfl) c3 rfl ?_ | (refine OpsD.pcp rfl (Fits.eq rfl) c3 rfl ?_ ?_; (· (first | trivial | omega | ((try simp only [R64, true_and, and_true, Int.toNat_natCast, List.length_cons, List.length_nil]); omega)))) ) | refine MvQ.stay ?_ | refine Owe.mk ?_ ?_)
      refine again (k + 1) [0, 1, 2] hlt (by omega) ?_
      refine ⟨rfl, ?_, ?_⟩ <;> (repeat' first | exact True.intro | exact VEq.refl _ | exact EEq.same _ | exact CEq.refl _ | exact VEq.int rfl | apply VEq.tru | apply VEq.fls | apply VEq.bool | apply VEq.int | exact VEq.nill rfl | exact VEq.zl rfl | exact VEq.nil | exact VEq.li_1 | exact VEq.li_2 | exact VEq.li_3 | exact VEq.li_4 | exact VEq.lp_1 | exact VEq.lp_2 | exact VEq.lp_3 | exact VEq.lp_4 | exact VEq.lt_1 | exact VEq.lt_2 | exact VEq.lt_3 | apply VEq.ms | apply VEq.sll | apply VEq.aggs | apply EEq.boxs | apply EEq.app1 | apply EEq.app2 | apply EEq.app3 | apply CEq.ms | apply CEq.int | apply CEq.sll | exact CEq.nill rfl | apply And.intro | exact rfl)
      · exact e1.symm
      · exact e2.symm
    · (repeat' first | (refine Owe.mk ?_ ?_; (· (first | trivial | omega | ((try simp only [R64, true_and, and_true, Int.toNat_natCast, List.length_cons, List.length_nil]); omega)))) | (refine Fork.same ?_; first | refine Fork.dec (fun h => ?_) (fun h => ?_) | refine Fork.ndec (fun h => ?_) (fun h => ?_) | refine Fork.mk (fun h => ?_) (fun h => ?_)) | refine MvQ.stay ?_ | refine Owe.mk ?_ ?_)
      have : k = l.length := by omega
      subst this
      (refine RetQ.plain (Nat.le_refl _) (by first | exact .inr rfl | exact .inl rfl) rfl (by (simp only [cloL, clo, cloC, cloCs, and_self])) ?_; (repeat' first | exact True.intro | exact VEq.refl _ | exact EEq.same _ | exact CEq.refl _ | exact VEq.int rfl | apply VEq.tru | apply VEq.fls | apply VEq.bool | apply VEq.int | exact VEq.nill rfl | exact VEq.zl rfl | exact VEq.nil | exact VEq.li_1 | exact VEq.li_2 | exact VEq.li_3 | exact VEq.li_4 | exact VEq.lp_1 | exact VEq.lp_2 | exact VEq.lp_3 | exact VEq.lp_4 | exact VEq.lt_1 | exact VEq.lt_2 | exact VEq.lt_3 | apply VEq.ms | apply VEq.sll | apply VEq.aggs | apply EEq.boxs | apply EEq.app1 | apply EEq.app2 | apply EEq.app3 | apply CEq.ms | apply CEq.int | apply CEq.sll | exact CEq.nill rfl | apply And.intro | exact rfl))
end Go.Pw

set_option linter.unusedSimpArgs false
set_option linter.unusedVariables false
namespace Go.Pw
open Go Go.Proofs
theorem sq_lt {a b : Int} (ha : 0 ≤ a) (h : a * a < b * b) (hb : 0 ≤ b) : a < b := by
  rcases Int.lt_or_le a b with h1 | h1
  · exact h1
  · have := Int.mul_le_mul h1 h1 hb ha; omega
/-- The greatest number whose square times a square is at most a number: one alone. -/
theorem root_one {a b z s : Int} (ha : 0 ≤ a) (hb : 0 ≤ b) (hz : 0 < z) (h1 : a * z * (a * z) ≤ s) (h2 : s < (a + 1) * z * ((a + 1) * z)) (h3 : b * z * (b * z) ≤ s) (h4 : s < (b + 1) * z * ((b + 1) * z)) : a = b := by
  have ha' : 0 ≤ a * z := Int.mul_nonneg ha (by omega)
  have hb' : 0 ≤ b * z := Int.mul_nonneg hb (by omega)
  have ha1 : 0 ≤ (a + 1) * z := Int.mul_nonneg (by omega) (by omega)
  have hb1 : 0 ≤ (b + 1) * z := Int.mul_nonneg (by omega) (by omega)
  have e1 : a * z < (b + 1) * z := sq_lt ha' (by omega) hb1
  have e2 : b * z < (a + 1) * z := sq_lt hb' (by omega) ha1
  have e3 : a < b + 1 := Int.lt_of_mul_lt_mul_right e1 (by omega)
  have e4 : b < a + 1 := Int.lt_of_mul_lt_mul_right e2 (by omega)
  omega
theorem root_a {s z r : Int} (hz : 0 < z) (h0 : 0 ≤ r) (h1 : r * r ≤ s) (h2 : s < (r + 1) * (r + 1)) : r / z * z * (r / z * z) ≤ s ∧ s < (r / z + 1) * z * ((r / z + 1) * z) := by
  have e := Int.mul_ediv_add_emod r z
  have e1 := Int.emod_nonneg r (show z ≠ 0 by omega)
  have e2 := Int.emod_lt_of_pos r hz
  have hq : 0 ≤ r / z := Int.ediv_nonneg h0 (by omega)
  rw [Int.mul_comm] at e
  have hm : 0 ≤ r / z * z := Int.mul_nonneg hq (by omega)
  have h3 : r / z * z ≤ r := by omega
  have h4 : r + 1 ≤ (r / z + 1) * z := by rw [Int.add_mul, Int.one_mul]; omega
  have h5 := Int.mul_le_mul h3 h3 hm h0
  have h6 := Int.mul_le_mul h4 h4 (by omega) (by omega)
  omega
theorem root_b {s z b : Int} (hz : 0 < z) (hb : 0 ≤ b) (h1 : b * b ≤ s / (z * z)) (h2 : s / (z * z) < (b + 1) * (b + 1)) : b * z * (b * z) ≤ s ∧ s < (b + 1) * z * ((b + 1) * z) := by
  have hzz : 0 < z * z := Int.mul_pos hz hz
  have e := Int.mul_ediv_add_emod s (z * z)
  have e1 := Int.emod_nonneg s (show z * z ≠ 0 by omega)
  have e2 := Int.emod_lt_of_pos s hzz
  have m1 : b * z * (b * z) = b * b * (z * z) := by rw [Int.mul_assoc, Int.mul_left_comm z, ← Int.mul_assoc]
  have m2 : (b + 1) * z * ((b + 1) * z) = (b + 1) * (b + 1) * (z * z) := by rw [Int.mul_assoc, Int.mul_left_comm z, ← Int.mul_assoc]
  rw [m1, m2]
  have h3 := Int.mul_le_mul_of_nonneg_right h1 (show 0 ≤ z * z by omega)
  have h4 := Int.mul_le_mul_of_nonneg_right (show s / (z * z) + 1 ≤ (b + 1) * (b + 1) by omega) (show 0 ≤ z * z by omega)
  rw [Int.add_mul, Int.one_mul] at h4
  rw [Int.mul_comm] at e
  omega
theorem len_eq {h z x : Int} (hh : 1 ≤ h ∧ h ≤ 1000) (hz : 0 < z ∧ z ≤ 20000) (hx : -20000 ≤ x ∧ x ≤ 20000) :
    lenF h z x = (isq (sqF h z x) / z, if isq (sqF h z x) / z * (isq (sqF h z x) / z) * z * z < sqF h z x then isq (sqF h z x) / z + 1 else isq (sqF h z x) / z) := by
  obtain ⟨_, _, b3, b4, b5, _⟩ := len_bd hh hz hx
  unfold lenF
  simp only [lnF]
  generalize sqF h z x = s at *
  obtain ⟨r1, r2, r3⟩ := isq_spec (n := s) (by omega)
  obtain ⟨q1, q2, q3⟩ := isq_spec (n := s.tdiv (z * z)) (by omega)
  generalize isq (s.tdiv (z * z)) = b at *
  generalize isq s = r at *
  rw [Int.tdiv_eq_ediv_of_nonneg (by omega)] at q2 q3
  obtain ⟨u1, u2⟩ := root_a hz.1 r1 r2 r3
  obtain ⟨v1, v2⟩ := root_b hz.1 q1 q2 q3
  have hq : 0 ≤ r / z := Int.ediv_nonneg r1 (by omega)
  have e : r / z = b := root_one hq q1 hz.1 u1 u2 v1 v2
  rw [e] at u1 ⊢
  have m1 : b * z * (b * z) = b * b * (z * z) := by rw [Int.mul_assoc, Int.mul_left_comm z, ← Int.mul_assoc]
  have m2 : b * b * z * z = b * b * (z * z) := Int.mul_assoc ..
  rw [m1] at u1
  rw [m2]
  by_cases h1 : b * b * (z * z) = s
  · rw [if_pos h1, if_neg (by omega)]
  · rw [if_neg h1, if_pos (by omega)]
theorem sqz_le {q z : Int} (hq : 0 ≤ q) (hz : 0 < z) : 0 ≤ q * q ∧ q * q ≤ q * q * z ∧ q * q * z ≤ q * q * z * z := by
  have h10 : 0 ≤ q * q := Int.mul_nonneg hq hq
  have h11 : 0 ≤ q * q * z := Int.mul_nonneg h10 (by omega)
  have h9 := Int.mul_le_mul_of_nonneg_left (show 1 ≤ z by omega) h11
  have h12 := Int.mul_le_mul_of_nonneg_left (show 1 ≤ z by omega) h10
  exact ⟨h10, by omega, by omega⟩
theorem C125 {h : Int} {t : Rg} : ((1 ≤ h ∧ h ≤ 1000) ∧ tnOk t) → PFD Try.prog 125 [vi .i64 h, .agg [int t.1, int t.2]] (.agg [int (lenF h t.2 t.1).1, int (lenF h t.2 t.1).2]) := fun ⟨hh, hx, hz⟩ => by
  obtain ⟨b1, b2, b3, b4, _, _⟩ := len_bd hh hz hx
  have e := len_eq hh hz hx
  obtain ⟨r1, r2, r3⟩ := isq_spec (n := sqF h t.2 t.1) (by omega)
  have c1 := C105 (n := sqF h t.2 t.1) (by omega)
  have hq1 : 0 ≤ isq (sqF h t.2 t.1) / t.2 := Int.ediv_nonneg r1 (by omega)
  have u1 := (root_a hz.1 r1 r2 r3).1
  have m1 : isq (sqF h t.2 t.1) / t.2 * t.2 * (isq (sqF h t.2 t.1) / t.2 * t.2) = isq (sqF h t.2 t.1) / t.2 * (isq (sqF h t.2 t.1) / t.2) * t.2 * t.2 := by
    rw [Int.mul_assoc (_ * _) t.2, Int.mul_assoc _ t.2, Int.mul_left_comm t.2, ← Int.mul_assoc]
  rw [m1] at u1
  have e2 : (isq (sqF h t.2 t.1)).tdiv t.2 = isq (sqF h t.2 t.1) / t.2 := Int.tdiv_eq_ediv_of_nonneg r1
  have h7 := isq_le (n := sqF h t.2 t.1) (by omega)
  have h8 : isq (sqF h t.2 t.1) / t.2 ≤ 1073741824 := Int.le_trans (Int.ediv_le_self _ r1) h7
  have h9 := sqz_le hq1 hz.1
  rw [e]
  simp only [sqF] at *
  generalize isq (h * h * (t.1 * t.1 + t.2 * t.2)) = r at *
  rw [← e2] at hq1 h8 u1 h9 ⊢
  clear e e2 m1
  refine PFD.of (vs := [_]) fn125 rfl (by (simp only [cloL, clo, cloC, cloCs, and_self])) ?_
  (repeat' first | (refine Owe.mk ?_ ?_; (· (first | trivial | omega | ((try simp only [R64, true_and, and_true, Int.toNat_natCast, List.length_cons, List.length_nil]); omega)))) | (refine Fork.same ?_; first | refine Fork.dec (fun h => ?_) (fun h => ?_) | refine Fork.ndec (fun h => ?_) (fun h => ?_) | refine Fork.mk (fun h => ?_) (fun h => ?_)) | (refine OpsL.same ?_; first | refine Ops.pc rfl (Fits.eq rfl) c1 rfl ?_ | (refine Ops.pcp rfl (Fits.eq rfl) c1 rfl ?_ ?_; (· (first | trivial | omega | ((try simp only [R64, true_and, and_true, Int.toNat_natCast, List.length_cons, List.length_nil]); omega)))) ) | (refine OpsDL.same ?_; first | refine OpsD.pc rfl (Fits.eq rfl) c1 rfl ?_ | (refine OpsD.pcp rfl (Fits.eq rfl) c1 rfl ?_ ?_; (· (first | trivial | omega | ((try simp only [R64, true_and, and_true, Int.toNat_natCast, List.length_cons, List.length_nil]); omega)))) ) | refine MvQ.stay ?_ | refine Owe.mk ?_ ?_)
  · rw [if_pos (by assumption)]; (refine RetQ.plain (Nat.le_refl _) (by first | exact .inr rfl | exact .inl rfl) rfl (by (simp only [cloL, clo, cloC, cloCs, and_self])) ?_; (repeat' first | exact True.intro | exact VEq.refl _ | exact EEq.same _ | exact CEq.refl _ | exact VEq.int rfl | apply VEq.tru | apply VEq.fls | apply VEq.bool | apply VEq.int | exact VEq.nill rfl | exact VEq.zl rfl | exact VEq.nil | exact VEq.li_1 | exact VEq.li_2 | exact VEq.li_3 | exact VEq.li_4 | exact VEq.lp_1 | exact VEq.lp_2 | exact VEq.lp_3 | exact VEq.lp_4 | exact VEq.lt_1 | exact VEq.lt_2 | exact VEq.lt_3 | apply VEq.ms | apply VEq.sll | apply VEq.aggs | apply EEq.boxs | apply EEq.app1 | apply EEq.app2 | apply EEq.app3 | apply CEq.ms | apply CEq.int | apply CEq.sll | exact CEq.nill rfl | apply And.intro | exact rfl))
  · rw [if_neg (by assumption)]; (refine RetQ.plain (Nat.le_refl _) (by first | exact .inr rfl | exact .inl rfl) rfl (by (simp only [cloL, clo, cloC, cloCs, and_self])) ?_; (repeat' first | exact True.intro | exact VEq.refl _ | exact EEq.same _ | exact CEq.refl _ | exact VEq.int rfl | apply VEq.tru | apply VEq.fls | apply VEq.bool | apply VEq.int | exact VEq.nill rfl | exact VEq.zl rfl | exact VEq.nil | exact VEq.li_1 | exact VEq.li_2 | exact VEq.li_3 | exact VEq.li_4 | exact VEq.lp_1 | exact VEq.lp_2 | exact VEq.lp_3 | exact VEq.lp_4 | exact VEq.lt_1 | exact VEq.lt_2 | exact VEq.lt_3 | apply VEq.ms | apply VEq.sll | apply VEq.aggs | apply EEq.boxs | apply EEq.app1 | apply EEq.app2 | apply EEq.app3 | apply CEq.ms | apply CEq.int | apply CEq.sll | exact CEq.nill rfl | apply And.intro | exact rfl))
/-- What is asked of the document's length of a link. -/
structure LngOk (F : Int → Int → Int → Rg) : Prop extends LenOk F where
  d : ∀ {h : Int} {t : Rg}, ((1 ≤ h ∧ h ≤ 1000) ∧ tnOk t) → PFD Try.prog 125 [vi .i64 h, .agg [int t.1, int t.2]] (.agg [int (F h t.2 t.1).1, int (F h t.2 t.1).2])
theorem lenF_ng : LngOk lenF := ⟨lenF_ok, C125⟩
theorem C65 {F : Int → Int → Int → Rg} (hF : LngOk F) {x z : Int} {l : List Lk} {c : List Int} : (opL x z l c).Tight → PFD Try.prog 65 [.agg [int x, int z, trs l], .c (ints c)] (.agg [int (lenL F (opL x z l c)).1, int (lenL F (opL x z l c)).2]) := fun hT => by
  have hL := hT.toOk
  have c1 := C40 hL
  have hn : 0 < l.length ∧ l.length ≤ 10 := hL.k.n
  have hcl : c.length = l.length := by have := hL.b; simpa using this
  have hlen := accL_len (tnF (opL x z l c)) l.length
  have hg : ∀ i, i < l.length → (accL (tnF (opL x z l c)) l.length).getD i (0, 0) = tnF (opL x z l c) i := fun i hi => accL_get _ hi
  have b0 := fun j (hj : j < l.length) => hF.b (g := (opL x z l c).h j) (hL.lk hj).1 (hT.z hj) (hL.bd (j + 1) (Nat.succ_le_of_lt hj)).1
  have hd := fun j (hj : j < l.length) => hF.d (h := (opL x z l c).h j) (t := tnF (opL x z l c) j) ⟨(hL.lk hj).1, (hL.bd (j + 1) (Nat.succ_le_of_lt hj)).1, hT.z hj⟩
  have hlk : ∀ j, (opL x z l c).h j = (l.getD j (0, 0, 0)).1 := fun _ => rfl
  show PFD Try.prog 65 [.agg [int x, int z, trs l], .c (ints c)] (.agg [int (sumI (fun i => (leF F (opL x z l c) i).1) l.length), int (sumI (fun i => (leF F (opL x z l c) i).2) l.length)])
  simp only [hlk] at b0 hd
  generalize hG : (fun j => F (l.getD j (0, 0, 0)).1 (tnF (opL x z l c) j).2 (tnF (opL x z l c) j).1) = G
  have e1 : (fun i => (leF F (opL x z l c) i).1) = fun i => (G i).1 := by rw [← hG]; rfl
  have e2 : (fun i => (leF F (opL x z l c) i).2) = fun i => (G i).2 := by rw [← hG]; rfl
  rw [e1, e2]
  replace b0 : ∀ j, j < l.length → (-1073741825 ≤ (G j).1 ∧ (G j).1 ≤ 1073741825) ∧ -1073741825 ≤ (G j).2 ∧ (G j).2 ≤ 1073741825 := fun j hj => by rw [← hG]; exact b0 j hj
  replace hd : ∀ j, j < l.length → PFD Try.prog 125 [vi .i64 (l.getD j (0, 0, 0)).1, .agg [int (tnF (opL x z l c) j).1, int (tnF (opL x z l c) j).2]] (.agg [int (G j).1, int (G j).2]) := fun j hj => by rw [← hG]; exact hd j hj
  clear hG e1 e2 hF hL hT hlk
  generalize tnF (opL x z l c) = T at *
  generalize accL T l.length = A at *
  refine PFD.of (vs := [_]) fn65 rfl (by (simp only [cloL, clo, cloC, cloCs, and_self])) ?_
  (repeat' first | (refine Owe.mk ?_ ?_; (· (first | trivial | omega | ((try simp only [R64, true_and, and_true, Int.toNat_natCast, List.length_cons, List.length_nil]); omega)))) | (refine Fork.same ?_; first | refine Fork.dec (fun h => ?_) (fun h => ?_) | refine Fork.ndec (fun h => ?_) (fun h => ?_) | refine Fork.mk (fun h => ?_) (fun h => ?_)) | (refine OpsL.same ?_; first | refine Ops.pc rfl (Fits.eq rfl) c1 rfl ?_ | (refine Ops.pcp rfl (Fits.eq rfl) c1 rfl ?_ ?_; (· (first | trivial | omega | ((try simp only [R64, true_and, and_true, Int.toNat_natCast, List.length_cons, List.length_nil]); omega)))) ) | (refine OpsDL.same ?_; first | refine OpsD.pc rfl (Fits.eq rfl) c1 rfl ?_ | (refine OpsD.pcp rfl (Fits.eq rfl) c1 rfl ?_ ?_; (· (first | trivial | omega | ((try simp only [R64, true_and, and_true, Int.toNat_natCast, List.length_cons, List.length_nil]); omega)))) ) | refine MvQ.stay ?_ | refine Owe.mk ?_ ?_)
  refine Sat.lp (fun k : Nat => ⟨[(7, vi .i64 k), (6, .c (prs A)), (2, .c (.bp 0 0)), (5, .c (.bp 2 0)), (4, .c (.bp 1 0))], [(0, .box [int x, int z, trs l]), (2, .box [int (sumI (fun i => (G i).1) k), int (sumI (fun i => (G i).2) k)]), (1, .box [int 0, int 0])], 3⟩)
    (fun k => k ≤ l.length) (fun k => l.length - k) 0 [0, 1, 2] (Nat.zero_le _) ?_ ?_
  · refine ⟨rfl, ?_, ?_⟩ <;> (repeat' first | exact True.intro | exact VEq.refl _ | exact EEq.same _ | exact CEq.refl _ | exact VEq.int rfl | apply VEq.tru | apply VEq.fls | apply VEq.bool | apply VEq.int | exact VEq.nill rfl | exact VEq.zl rfl | exact VEq.nil | exact VEq.li_1 | exact VEq.li_2 | exact VEq.li_3 | exact VEq.li_4 | exact VEq.lp_1 | exact VEq.lp_2 | exact VEq.lp_3 | exact VEq.lp_4 | exact VEq.lt_1 | exact VEq.lt_2 | exact VEq.lt_3 | apply VEq.ms | apply VEq.sll | apply VEq.aggs | apply EEq.boxs | apply EEq.app1 | apply EEq.app2 | apply EEq.app3 | apply CEq.ms | apply CEq.int | apply CEq.sll | exact CEq.nill rfl | apply And.intro | exact rfl)
  · intro k hk
    refine Fork.dec (fun hlt => ?_) (fun hlt => ?_)
    · have hlt : k < l.length := by omega
      have h4 := b0 k hlt
      have h6 := sumI_bd (f := fun i => (G i).1) (M := 1073741825) (n := l.length) (fun j hj => (b0 j hj).1) k hk
      have h7 := sumI_bd (f := fun i => (G i).2) (M := 1073741825) (n := l.length) (fun j hj => (b0 j hj).2) k hk
      have c2 := hd k hlt
      rw [← hg k hlt] at c2
      have e1 : sumI (fun i => (G i).1) (k + 1) = sumI (fun i => (G i).1) k + (G k).1 := rfl
      have e2 : sumI (fun i => (G i).2) (k + 1) = sumI (fun i => (G i).2) k + (G k).2 := rfl
      generalize G k = g at *
      (repeat' first | (refine Owe.mk ?_ ?_; (· (first | trivial | omega | ((try simp only [R64, true_and, and_true, Int.toNat_natCast, List.length_cons, List.length_nil]); omega)))) | (refine Fork.same ?_; first | refine Fork.dec (fun h => ?_) (fun h => ?_) | refine Fork.ndec (fun h => ?_) (fun h => ?_) | refine Fork.mk (fun h => ?_) (fun h => ?_)) | (refine OpsL.same ?_; first | refine Ops.pc rfl (Fits.eq rfl) c2 rfl ?_ | (refine Ops.pcp rfl (Fits.eq rfl) c2 rfl ?_ ?_; (· (first | trivial | omega | ((try simp only [R64, true_and, and_true, Int.toNat_natCast, List.length_cons, List.length_nil]); omega)))) ) | (refine OpsDL.same ?_; first | refine OpsD.pc rfl (Fits.eq rfl) c2 rfl ?_ | (refine OpsD.pcp rfl (Fits.eq rfl) c2 rfl ?_ ?_; (· (first | trivial | omega | ((try simp only [R64, true_and, and_true, Int.toNat_natCast, List.length_cons, List.length_nil]); omega)))) ) | refine MvQ.stay ?_ | refine Owe.mk ?_ ?_)
      refine again (k + 1) [0, 1, 2] hlt (by omega) ?_
      refine ⟨rfl, ?_, ?_⟩ <;> (repeat' first | exact True.intro | exact VEq.refl _ | exact EEq.same _ | exact CEq.refl _ | exact VEq.int rfl | apply VEq.tru | apply VEq.fls | apply VEq.bool | apply VEq.int | exact VEq.nill rfl | exact VEq.zl rfl | exact VEq.nil | exact VEq.li_1 | exact VEq.li_2 | exact VEq.li_3 | exact VEq.li_4 | exact VEq.lp_1 | exact VEq.lp_2 | exact VEq.lp_3 | exact VEq.lp_4 | exact VEq.lt_1 | exact VEq.lt_2 | exact VEq.lt_3 | apply VEq.ms | apply VEq.sll | apply VEq.aggs | apply EEq.boxs | apply EEq.app1 | apply EEq.app2 | apply EEq.app3 | apply CEq.ms | apply CEq.int | apply CEq.sll | exact CEq.nill rfl | apply And.intro | exact rfl)
      · exact e1.symm
      · exact e2.symm
    · (repeat' first | (refine Owe.mk ?_ ?_; (· (first | trivial | omega | ((try simp only [R64, true_and, and_true, Int.toNat_natCast, List.length_cons, List.length_nil]); omega)))) | (refine Fork.same ?_; first | refine Fork.dec (fun h => ?_) (fun h => ?_) | refine Fork.ndec (fun h => ?_) (fun h => ?_) | refine Fork.mk (fun h => ?_) (fun h => ?_)) | refine MvQ.stay ?_ | refine Owe.mk ?_ ?_)
      have : k = l.length := by omega
      subst this
      (refine RetQ.plain (Nat.le_refl _) (by first | exact .inr rfl | exact .inl rfl) rfl (by (simp only [cloL, clo, cloC, cloCs, and_self])) ?_; (repeat' first | exact True.intro | exact VEq.refl _ | exact EEq.same _ | exact CEq.refl _ | exact VEq.int rfl | apply VEq.tru | apply VEq.fls | apply VEq.bool | apply VEq.int | exact VEq.nill rfl | exact VEq.zl rfl | exact VEq.nil | exact VEq.li_1 | exact VEq.li_2 | exact VEq.li_3 | exact VEq.li_4 | exact VEq.lp_1 | exact VEq.lp_2 | exact VEq.lp_3 | exact VEq.lp_4 | exact VEq.lt_1 | exact VEq.lt_2 | exact VEq.lt_3 | apply VEq.ms | apply VEq.sll | apply VEq.aggs | apply EEq.boxs | apply EEq.app1 | apply EEq.app2 | apply EEq.app3 | apply CEq.ms | apply CEq.int | apply CEq.sll | exact CEq.nill rfl | apply And.intro | exact rfl))
end Go.Pw

namespace Go.Pw
theorem Fork.yes {b : Bool} {p q : Prop} (hb : b = true) (hp : p) : Fork b p q := ⟨fun _ => hp, fun h => absurd (hb.symm.trans h) (by decide)⟩
theorem Fork.no {b : Bool} {p q : Prop} (hb : b = false) (hq : q) : Fork b p q := ⟨fun h => absurd (hb.symm.trans h) (by decide), fun _ => hq⟩
theorem nd_t {x : Prop} [Decidable x] (h : ¬ x) : (!decide x) = true := by rw [decide_eq_false h]; rfl
theorem nd_f {x : Prop} [Decidable x] (h : x) : (!decide x) = false := by rw [decide_eq_true h]; rfl
end Go.Pw

set_option linter.unusedVariables false
set_option maxHeartbeats 2000000
set_option maxRecDepth 100000
namespace Go.Pw
open Go Go.Proofs
/-- moonpool/moonpoollaw01.CableShapes -/
def lc8 : LCode :=
  (.seq (.region [⟨some 2, .box (.tmp 0), none⟩, ⟨some 4, .mv (.const (.bool false)), none⟩]) (.seq (.seq (.region [⟨some 21, .call (.func 15) [], none⟩, ⟨some 22, .un .not (.tmp
    21), none⟩]) (.cond (.tmp 22) (.seq (.region [⟨some 4, .mv (.const (.bool false)), none⟩]) .ret) .skip)) (.seq (.seq (.region [⟨some 23, .load true 3 (.tmp 2), none⟩, ⟨some 24,
    .mv (.tmp 1), none⟩, ⟨some 25, .len (.tmp 24), none⟩, ⟨some 26, .call (.func 28) [(.tmp 23), (.tmp 25)], none⟩, ⟨some 27, .un .not (.tmp 26), none⟩]) (.cond (.tmp 27) (.seq
    (.region [⟨some 4, .mv (.const (.bool true)), none⟩]) .ret) .skip)) (.seq (.region [⟨some 29, .load true 3 (.tmp 2), none⟩, ⟨some 30, .call (.func 30) [(.tmp 29)], none⟩, ⟨some
    31, .mv (.tmp 1), none⟩, ⟨some 32, .call (.func 31) [(.tmp 31)], none⟩, ⟨some 33, .call (.func 55) [(.tmp 30), (.tmp 32)], none⟩, ⟨some 28, .mv (.tmp 33), none⟩, ⟨some 34, .ext
    (.tmp 28) 0, none⟩, ⟨some 35, .ext (.tmp 28) 1, none⟩, ⟨some 5, .mv (.tmp 34), none⟩, ⟨some 6, .mv (.tmp 35), none⟩]) (.seq (.region [⟨some 37, .load true 3 (.tmp 2), none⟩,
    ⟨some 38, .call (.func 30) [(.tmp 37)], none⟩, ⟨some 39, .mv (.tmp 1), none⟩, ⟨some 40, .call (.func 31) [(.tmp 39)], none⟩, ⟨some 41, .call (.func 56) [(.tmp 38), (.tmp 40)],
    none⟩, ⟨some 36, .mv (.tmp 41), none⟩, ⟨some 42, .ext (.tmp 36) 0, none⟩, ⟨some 43, .ext (.tmp 36) 1, none⟩, ⟨some 7, .alloc [(.int .i64 0), (.int .i64 0)], none⟩, ⟨none, .store
    2 (.tmp 7) (.tmp 42), none⟩, ⟨some 8, .mv (.tmp 43), none⟩]) (.seq (.region [⟨some 45, .load true 3 (.tmp 2), none⟩, ⟨some 46, .call (.func 30) [(.tmp 45)], none⟩, ⟨some 47, .mv
    (.tmp 1), none⟩, ⟨some 48, .call (.func 31) [(.tmp 47)], none⟩, ⟨some 49, .call (.func 57) [(.tmp 46), (.tmp 48)], none⟩, ⟨some 44, .mv (.tmp 49), none⟩, ⟨some 50, .ext (.tmp
    44) 0, none⟩, ⟨some 51, .ext (.tmp 44) 1, none⟩, ⟨some 9, .alloc [(.int .i64 0), (.int .i64 0)], none⟩, ⟨none, .store 2 (.tmp 9) (.tmp 50), none⟩, ⟨some 10, .mv (.tmp 51),
    none⟩]) (.seq (.region [⟨some 53, .load true 3 (.tmp 2), none⟩, ⟨some 54, .call (.func 30) [(.tmp 53)], none⟩, ⟨some 55, .mv (.tmp 1), none⟩, ⟨some 56, .call (.func 31) [(.tmp
    55)], none⟩, ⟨some 57, .call (.func 58) [(.tmp 54), (.tmp 56)], none⟩, ⟨some 52, .mv (.tmp 57), none⟩, ⟨some 58, .ext (.tmp 52) 0, none⟩, ⟨some 59, .ext (.tmp 52) 1, none⟩,
    ⟨some 11, .mv (.tmp 58), none⟩, ⟨some 12, .mv (.tmp 59), none⟩]) (.seq (.region [⟨some 61, .load true 3 (.tmp 2), none⟩, ⟨some 62, .call (.func 30) [(.tmp 61)], none⟩, ⟨some 63,
    .mv (.tmp 1), none⟩, ⟨some 64, .call (.func 31) [(.tmp 63)], none⟩, ⟨some 65, .call (.func 59) [(.tmp 62), (.tmp 64)], none⟩, ⟨some 60, .mv (.tmp 65), none⟩, ⟨some 66, .ext
    (.tmp 60) 0, none⟩, ⟨some 67, .ext (.tmp 60) 1, none⟩, ⟨some 68, .ext (.tmp 60) 2, none⟩, ⟨some 14, .alloc [(.int .i64 0), (.int .i64 0)], none⟩, ⟨some 13, .mv (.tmp 66), none⟩,
    ⟨none, .store 2 (.tmp 14) (.tmp 67), none⟩, ⟨some 15, .mv (.tmp 68), none⟩]) (.seq (.region [⟨some 69, .build [(.int .i64 0), (.int .i64 0)] [], none⟩, ⟨some 16, .alloc [(.int
    .i64 0), (.int .i64 0)], none⟩, ⟨none, .store 2 (.tmp 16) (.tmp 69), none⟩]) (.seq (.region [⟨some 70, .load true 3 (.tmp 2), none⟩, ⟨some 71, .call (.func 35) [(.tmp 70)],
    none⟩, ⟨some 17, .mv (.tmp 71), none⟩]) (.seq (.seq (.region [⟨some 72, .mv (.tmp 17), none⟩, ⟨some 73, .bin .eql (.tmp 72) (.const (.int .i64 0)), none⟩]) (.cond (.tmp 73)
    (.region [⟨some 74, .load true 3 (.tmp 2), none⟩, ⟨some 75, .mv (.tmp 1), none⟩, ⟨some 76, .call (.func 36) [(.tmp 74), (.tmp 75)], none⟩, ⟨some 17, .mv (.tmp 76), none⟩])
    .skip)) (.seq (.seq (.region [⟨some 77, .mv (.tmp 17), none⟩, ⟨some 78, .bin .eql (.tmp 77) (.const (.int .i64 0)), none⟩]) (.cond (.tmp 78) (.region [⟨some 79, .load true 3
    (.tmp 2), none⟩, ⟨some 80, .call (.func 60) [(.tmp 79)], none⟩, ⟨some 17, .mv (.tmp 80), none⟩]) .skip)) (.seq (.seq (.region [⟨some 81, .mv (.tmp 17), none⟩, ⟨some 82, .bin
    .neq (.tmp 81) (.const (.int .i64 0)), none⟩]) (.cond (.tmp 82) (.seq (.region [⟨some 83, .mv (.tmp 6), none⟩, ⟨some 84, .mv (.tmp 17), none⟩, ⟨some 85, .bin .eql (.tmp 83)
    (.tmp 84), none⟩, ⟨some 86, .mv (.tmp 85), none⟩, ⟨some 87, .mv (.tmp 8), some (86, true)⟩, ⟨some 88, .mv (.tmp 17), some (86, true)⟩, ⟨some 89, .bin .eql (.tmp 87) (.tmp 88),
    some (86, true)⟩, ⟨some 90, .pick (.tmp 86) (.tmp 89) (.const (.bool false)), none⟩, ⟨some 91, .mv (.tmp 90), none⟩, ⟨some 92, .mv (.tmp 10), some (91, true)⟩, ⟨some 93, .mv
    (.tmp 17), some (91, true)⟩, ⟨some 94, .bin .eql (.tmp 92) (.tmp 93), some (91, true)⟩, ⟨some 95, .pick (.tmp 91) (.tmp 94) (.const (.bool false)), none⟩, ⟨some 96, .mv (.tmp
    95), none⟩, ⟨some 97, .mv (.tmp 12), some (96, true)⟩, ⟨some 98, .mv (.tmp 17), some (96, true)⟩, ⟨some 99, .bin .eql (.tmp 97) (.tmp 98), some (96, true)⟩, ⟨some 100, .pick
    (.tmp 96) (.tmp 99) (.const (.bool false)), none⟩, ⟨some 101, .mv (.tmp 100), none⟩, ⟨some 102, .mv (.tmp 15), some (101, true)⟩, ⟨some 103, .mv (.tmp 17), some (101, true)⟩,
    ⟨some 104, .bin .eql (.tmp 102) (.tmp 103), some (101, true)⟩, ⟨some 105, .pick (.tmp 101) (.tmp 104) (.const (.bool false)), none⟩, ⟨some 106, .mv (.tmp 105), none⟩, ⟨some 107,
    .mv (.tmp 5), some (106, true)⟩, ⟨some 108, .len (.tmp 107), some (106, true)⟩, ⟨some 109, .mv (.tmp 11), some (106, true)⟩, ⟨some 110, .len (.tmp 109), some (106, true)⟩, ⟨some
    111, .bin .add (.tmp 108) (.tmp 110), some (106, true)⟩, ⟨some 112, .bin .eql (.tmp 111) (.const (.int .i64 0)), some (106, true)⟩, ⟨some 113, .pick (.tmp 106) (.tmp 112)
    (.const (.bool false)), none⟩, ⟨some 114, .mv (.tmp 113), none⟩, ⟨some 115, .load true 2 (.tmp 7), some (114, true)⟩, ⟨some 116, .load true 2 (.tmp 16), some (114, true)⟩, ⟨some
    117, .eqA false 2 (.tmp 115) (.tmp 116), some (114, true)⟩, ⟨some 118, .pick (.tmp 114) (.tmp 117) (.const (.bool false)), none⟩, ⟨some 119, .mv (.tmp 118), none⟩, ⟨some 120,
    .load true 2 (.tmp 9), some (119, true)⟩, ⟨some 121, .load true 2 (.tmp 16), some (119, true)⟩, ⟨some 122, .eqA false 2 (.tmp 120) (.tmp 121), some (119, true)⟩, ⟨some 123,
    .pick (.tmp 119) (.tmp 122) (.const (.bool false)), none⟩, ⟨some 124, .mv (.tmp 123), none⟩, ⟨some 125, .mv (.tmp 13), some (124, true)⟩, ⟨some 126, .bin .eql (.tmp 125) (.const
    (.int .i64 0)), some (124, true)⟩, ⟨some 127, .pick (.tmp 124) (.tmp 126) (.const (.bool false)), none⟩, ⟨some 128, .mv (.tmp 127), none⟩, ⟨some 129, .load true 2 (.tmp 14),
    some (128, true)⟩, ⟨some 130, .build [(.int .i64 0), (.int .i64 0)] [], some (128, true)⟩, ⟨some 131, .eqA false 2 (.tmp 129) (.tmp 130), some (128, true)⟩, ⟨some 132, .pick
    (.tmp 128) (.tmp 131) (.const (.bool false)), none⟩, ⟨some 4, .mv (.tmp 132), none⟩]) .ret) .skip)) (.seq (.region [⟨some 133, .load true 3 (.tmp 2), none⟩, ⟨some 134, .mv (.tmp
    1), none⟩, ⟨some 135, .call (.func 61) [(.tmp 133), (.tmp 134)], none⟩, ⟨some 18, .mv (.tmp 135), none⟩]) (.seq (.seq (.regionD [⟨some 136, .mv (.tmp 6), none⟩, ⟨some 137, .bin
    .neq (.tmp 136) (.const (.int .i64 0)), none⟩, ⟨some 138, .mv (.tmp 137), none⟩, ⟨some 139, .mv (.tmp 5), some (138, false)⟩, ⟨some 140, .load true 3 (.tmp 2), some (138,
    false)⟩, ⟨some 141, .mv (.tmp 1), some (138, false)⟩, ⟨some 142, .call (.func 63) [(.tmp 140), (.tmp 141)], some (138, false)⟩, ⟨some 143, .call (.func 62) [(.tmp 139), (.tmp
    142)], some (138, false)⟩, ⟨some 144, .un .not (.tmp 143), some (138, false)⟩, ⟨some 145, .pick (.tmp 138) (.const (.bool true)) (.tmp 144), none⟩, ⟨some 146, .mv (.tmp 145),
    none⟩, ⟨some 147, .mv (.tmp 8), some (146, false)⟩, ⟨some 148, .bin .neq (.tmp 147) (.const (.int .i64 0)), some (146, false)⟩, ⟨some 149, .pick (.tmp 146) (.const (.bool true))
    (.tmp 148), none⟩, ⟨some 150, .mv (.tmp 149), none⟩, ⟨some 151, .load true 2 (.tmp 7), some (150, false)⟩, ⟨some 152, .load true 3 (.tmp 2), some (150, false)⟩, ⟨some 153, .mv
    (.tmp 1), some (150, false)⟩, ⟨some 154, .call (.func 64) [(.tmp 152), (.tmp 153)], some (150, false)⟩, ⟨some 155, .eqA true 2 (.tmp 151) (.tmp 154), some (150, false)⟩, ⟨some
    156, .pick (.tmp 150) (.const (.bool true)) (.tmp 155), none⟩, ⟨some 157, .mv (.tmp 156), none⟩, ⟨some 158, .mv (.tmp 10), some (157, false)⟩, ⟨some 159, .bin .neq (.tmp 158)
    (.const (.int .i64 0)), some (157, false)⟩, ⟨some 160, .pick (.tmp 157) (.const (.bool true)) (.tmp 159), none⟩, ⟨some 161, .mv (.tmp 160), none⟩, ⟨some 162, .load true 2 (.tmp
    9), some (161, false)⟩, ⟨some 163, .load true 3 (.tmp 2), some (161, false)⟩, ⟨some 164, .mv (.tmp 1), some (161, false)⟩, ⟨some 165, .call (.func 65) [(.tmp 163), (.tmp 164)],
    some (161, false)⟩, ⟨some 166, .eqA true 2 (.tmp 162) (.tmp 165), some (161, false)⟩, ⟨some 167, .pick (.tmp 161) (.const (.bool true)) (.tmp 166), none⟩, ⟨some 168, .mv (.tmp
    167), none⟩, ⟨some 169, .mv (.tmp 12), some (168, false)⟩, ⟨some 170, .bin .neq (.tmp 169) (.const (.int .i64 0)), some (168, false)⟩, ⟨some 171, .pick (.tmp 168) (.const (.bool
    true)) (.tmp 170), none⟩, ⟨some 172, .mv (.tmp 171), none⟩, ⟨some 173, .mv (.tmp 11), some (172, false)⟩, ⟨some 174, .mv (.tmp 18), some (172, false)⟩, ⟨some 175, .call (.func
    62) [(.tmp 173), (.tmp 174)], some (172, false)⟩, ⟨some 176, .un .not (.tmp 175), some (172, false)⟩, ⟨some 177, .pick (.tmp 172) (.const (.bool true)) (.tmp 176), none⟩] [0, 1,
    3, 7, 7, 7, 55, 127, 255, 511, 1023, 2047, 4095, 8191, 16383, 32767, 32767, 32767, 229375, 524287, 1048575, 2097151, 4194303, 8388607, 16777215, 33554431, 67108863, 67108863,
    67108863, 469762047, 1073741823, 2147483647, 4294967295, 8589934591, 17179869183, 34359738367, 68719476735, 137438953471, 137438953471, 549755813887, 1099511627775,
    2199023255551] [0, 1, 2, 3, 4, 5, 6, 7, 8, 9, 10, 11, 12, 13, 14, 15, 16, 17, 18, 19, 20, 21, 22, 23, 24, 25, 26, 27, 28, 29, 30, 31, 32, 33, 34, 35, 36, 37, 38, 39, 40, 41])
    (.cond (.tmp 177) (.seq (.region [⟨some 4, .mv (.const (.bool false)), none⟩]) .ret) .skip)) (.seq (.region [⟨some 179, .load true 3 (.tmp 2), none⟩, ⟨some 180, .mv (.tmp 1),
    none⟩, ⟨some 181, .call (.func 66) [(.tmp 179), (.tmp 180)], none⟩, ⟨some 178, .mv (.tmp 181), none⟩, ⟨some 182, .ext (.tmp 178) 0, none⟩, ⟨some 183, .ext (.tmp 178) 1, none⟩,
    ⟨some 19, .mv (.tmp 182), none⟩, ⟨some 20, .mv (.tmp 183), none⟩]) (.seq (.seq (.region [⟨some 184, .mv (.tmp 20), none⟩, ⟨some 185, .un .not (.tmp 184), none⟩]) (.cond (.tmp
    185) (.seq (.region [⟨some 186, .mv (.tmp 15), none⟩, ⟨some 187, .bin .eql (.tmp 186) (.const (.int .i64 12)), none⟩, ⟨some 188, .mv (.tmp 187), none⟩, ⟨some 189, .mv (.tmp 13),
    some (188, true)⟩, ⟨some 190, .bin .eql (.tmp 189) (.const (.int .i64 0)), some (188, true)⟩, ⟨some 191, .pick (.tmp 188) (.tmp 190) (.const (.bool false)), none⟩, ⟨some 192,
    .mv (.tmp 191), none⟩, ⟨some 193, .load true 2 (.tmp 14), some (192, true)⟩, ⟨some 194, .build [(.int .i64 0), (.int .i64 0)] [], some (192, true)⟩, ⟨some 195, .eqA false 2
    (.tmp 193) (.tmp 194), some (192, true)⟩, ⟨some 196, .pick (.tmp 192) (.tmp 195) (.const (.bool false)), none⟩, ⟨some 4, .mv (.tmp 196), none⟩]) .ret) .skip)) (.seq (.regionD
    [⟨some 197, .mv (.tmp 15), none⟩, ⟨some 198, .bin .eql (.tmp 197) (.const (.int .i64 0)), none⟩, ⟨some 199, .mv (.tmp 198), none⟩, ⟨some 200, .mv (.tmp 13), some (199, true)⟩,
    ⟨some 201, .mv (.tmp 19), some (199, true)⟩, ⟨some 202, .bin .eql (.tmp 200) (.tmp 201), some (199, true)⟩, ⟨some 203, .pick (.tmp 199) (.tmp 202) (.const (.bool false)), none⟩,
    ⟨some 204, .mv (.tmp 203), none⟩, ⟨some 205, .load true 2 (.tmp 14), some (204, true)⟩, ⟨some 206, .mv (.tmp 18), some (204, true)⟩, ⟨some 207, .mv (.tmp 19), some (204, true)⟩,
    ⟨some 208, .idx 2 (.tmp 206) (.tmp 207), some (204, true)⟩, ⟨some 209, .load true 2 (.tmp 208), some (204, true)⟩, ⟨some 210, .eqA false 2 (.tmp 205) (.tmp 209), some (204,
    true)⟩, ⟨some 211, .pick (.tmp 204) (.tmp 210) (.const (.bool false)), none⟩, ⟨some 4, .mv (.tmp 211), none⟩] [0, 1, 3, 7, 7, 31, 63, 127, 255, 255, 255, 1791, 3839, 8191,
    16383, 32767] [0, 1, 2, 3, 4, 5, 6, 7, 8, 9, 10, 11, 12, 13, 14, 15]) .ret))))))))))))))))))
theorem low8 : lowF Try.prog [] Try.f8 = some (212, lc8, [.tmp 4]) := by kernel_rfl
theorem fn8 : FnOk Try.prog 8 212 lc8 [.tmp 4] := ⟨Try.call8, [], _, Try.func8, low8⟩
end Go.Pw

set_option linter.unusedSimpArgs false
namespace Go.Pw
open Go Go.Proofs
theorem opL_pz {x z : Int} {l : List Lk} {b : List Rg} : ∀ k : Nat, (Ln.mk x z l b).pz k = (stl x z l).pz k
  | 0 => rfl
  | k + 1 => by
    show (Ln.mk x z l b).pz k + _ = (stl x z l).pz k + _
    rw [opL_pz k]; rfl
theorem slk_eq {x z : Int} {l : List Lk} {b : List Rg} : slkE (Ln.mk x z l b) = slkN x z l := by
  have hm : ∀ k, k < l.length → (slP (stl x z l) k = true → ¬ 0 < (Ln.mk x z l b).pz (k + 1)) := fun k hk h => by
    rw [opL_pz]; simp only [slP, decide_eq_true_eq] at h; omega
  simp only [slkE, slkN]
  by_cases h : ∀ k, k < l.length → 0 < (Ln.mk x z l b).pz (k + 1)
  · rw [if_pos h, if_pos]
    simp only [fltL, List.length_eq_zero_iff, List.map_eq_nil_iff, List.filter_eq_nil_iff, List.mem_range]
    intro k hk hs
    exact hm k hk hs (h k hk)
  · rw [if_neg h, if_neg]
    intro h2
    apply h
    simp only [fltL, List.length_eq_zero_iff, List.map_eq_nil_iff, List.filter_eq_nil_iff, List.mem_range] at h2
    intro k hk
    have := h2 k hk
    rw [opL_pz]
    simp only [slP, decide_eq_true_eq] at this
    omega
theorem shE_ne {e : Int} {B : List Rg} (h : e ≠ 0) : shE e B = e := by rw [shE, if_neg h]
/-- What the program answers for a line and currents that are not valid. -/
theorem shapes_err {x z : Int} {l : List Lk} {c : List Int} {e : Int} (hl : l.length ≤ 1000000 ∧ c.length ≤ 1000000) (h : tgE (opn x z l c) = e) (h0 : e ≠ 0) :
    PFD Try.prog 55 [.agg [int x, int z, trs l], .c (ints c)] (.tup [.c (prs []), vi .i64 e]) ∧
    PFD Try.prog 56 [.agg [int x, int z, trs l], .c (ints c)] (.tup [.agg [int 0, int 0], vi .i64 e]) ∧
    PFD Try.prog 57 [.agg [int x, int z, trs l], .c (ints c)] (.tup [.agg [int 0, int 0], vi .i64 e]) ∧
    PFD Try.prog 58 [.agg [int x, int z, trs l], .c (ints c)] (.tup [.c (prs []), vi .i64 e]) ∧
    PFD Try.prog 59 [.agg [int x, int z, trs l], .c (ints c)] (.tup [vi .i64 0, .agg [int 0, int 0], vi .i64 e]) := by
  have c1 := C55 (x := x) (z := z) (l := l) (c := c) hl
  have c2 := C56 (x := x) (z := z) (l := l) (c := c) hl
  have c3 := C57 lenF_ok (x := x) (z := z) (l := l) (c := c) hl
  have c4 := C58 (x := x) (z := z) (l := l) (c := c) hl
  have c5 := C59 (x := x) (z := z) (l := l) (c := c) hl
  rw [h, orE, if_neg h0] at c1 c4
  rw [h, orP, if_neg h0] at c2 c3
  rw [h, shE_ne h0, if_neg h0, if_neg h0] at c5
  exact ⟨c1, c2, c3, c4, c5⟩
set_option maxHeartbeats 8000000 in
theorem C8 {x z : Int} {l : List Lk} {c : List Int} : PFD Try.prog 8 [.agg [int x, int z, trs l], .c (ints c)] (vbl true) := by
  by_cases hf : l.length ≤ 12 ∧ (c.length : Int) ≤ 14
  · have hlc : l.length ≤ 1000000 ∧ c.length ≤ 1000000 := by omega
    have c1 := C35 (x := x) (z := z) (l := l) (by omega)
    have c2 := C36 (x := x) (z := z) (l := l) (c := c) (by omega)
    have ho := opn_err (x := x) (z := z) (l := l) (c := c)
    by_cases h0 : (lineE x z l).2 = 0
    · rw [if_pos h0] at ho
      rw [h0] at c1
      by_cases h1 : curE l.length c = 0
      · rw [h1] at ho c2
        have hLe := (opn_ok ho).1
        have hL : (opL x z l c).Ok := by
          have := opn_ok ho
          rw [this.1] at this; exact this.2
        have c3 : PFD Try.prog 60 [.agg [int x, int z, trs l]] (vi .i64 (slkN x z l)) := C60 hL.k
        have he : tgE (opn x z l c) = slkN x z l := by
          rw [tgE, if_pos ho, hLe]; exact slk_eq
        by_cases h2 : slkN x z l = 0
        · have hT : (opL x z l c).Tight := by
            have := tgE_ok (o := opn x z l c) (by rw [he, h2]) fun h => (opn_ok h).2
            rw [hLe] at this; exact this
          rw [h2] at c3 he
          have d1 := C55 (x := x) (z := z) (l := l) (c := c) hlc
          have d2 := C56 (x := x) (z := z) (l := l) (c := c) hlc
          have d3 := C57 lenF_ok (x := x) (z := z) (l := l) (c := c) hlc
          have d4 := C58 (x := x) (z := z) (l := l) (c := c) hlc
          have d5 := C59 (x := x) (z := z) (l := l) (c := c) hlc
          rw [he, orE, if_pos rfl, hLe] at d1 d4
          rw [he, orP, if_pos rfl, hLe] at d2 d3
          rw [he, hLe] at d5
          have e1 := C63 hT
          have e2 := C64 hT
          have e3 := C65 lenF_ng hT
          have e4 := C61 hT
          have e5 := C66 hT
          have hn : 0 < l.length ∧ l.length ≤ 10 := hL.k.n
          have hO := accL_len (ofF (opL x z l c)) l.length
          have hB : (bdL (accL (tnF (opL x z l c)) l.length)).length = l.length - 1 := by rw [bdL_len, accL_len]
          have hsh := shI_lt (bdL (accL (tnF (opL x z l c)) l.length))
          change PFD Try.prog 55 _ (.tup [.c (prs (accL (ofF (opL x z l c)) l.length)), _]) at d1
          change PFD Try.prog 58 _ (.tup [.c (prs (bdL (accL (tnF (opL x z l c)) l.length))), _]) at d4
          change PFD Try.prog 59 _ (.tup [vi .i64 (if shE 0 (bdL (accL (tnF (opL x z l c)) l.length)) = 0 then (shI (bdL (accL (tnF (opL x z l c)) l.length)) (bdL (accL (tnF (opL x z l c)) l.length)).length : Nat) else 0 : Int), .agg [int (if shE 0 (bdL (accL (tnF (opL x z l c)) l.length)) = 0 then (bdL (accL (tnF (opL x z l c)) l.length)).getD (shI (bdL (accL (tnF (opL x z l c)) l.length)) (bdL (accL (tnF (opL x z l c)) l.length)).length) (0, 0) else (0, 0)).1, int (if shE 0 (bdL (accL (tnF (opL x z l c)) l.length)) = 0 then (bdL (accL (tnF (opL x z l c)) l.length)).getD (shI (bdL (accL (tnF (opL x z l c)) l.length)) (bdL (accL (tnF (opL x z l c)) l.length)).length) (0, 0) else (0, 0)).2], vi .i64 (shE 0 (bdL (accL (tnF (opL x z l c)) l.length)))]) at d5
          generalize lenL lenF (opL x z l c) = N at *
          generalize laybk (opL x z l c) = R at *
          generalize accL (ofF (opL x z l c)) l.length = O at *
          generalize bdL (accL (tnF (opL x z l c)) l.length) = B at *
          have c4 := C62 (l := O) (m := O) (by omega)
          have c5 := C62 (l := B) (m := B) (by omega)
          rw [decide_eq_true rfl] at c4 c5
          by_cases hb : B.length = 0
          · rw [show shE 0 B = 12 by rw [shE, if_pos rfl, if_pos hb], if_neg (by decide), if_neg (by decide)] at d5
            rw [decide_eq_false (by omega)] at e5
            refine PFD.of (vs := [_]) fn8 rfl (by (simp only [cloL, clo, cloC, cloCs, and_self])) ?_
            (repeat' first | (refine Owe.mk ?_ ?_; (· (first | trivial | omega | ((try simp only [R64, true_and, and_true, Int.toNat_natCast, List.length_cons, List.length_nil]); omega)))) | (refine Fork.same ?_; first | (refine Fork.yes ?_ ?_; (· first | exact rfl | (refine decide_eq_true ?_; omega) | (refine nd_t ?_; omega) | (simp only [decide_true, Bool.and_self, Bool.not_false]))) | (refine Fork.no ?_ ?_; (· first | exact rfl | (refine decide_eq_false ?_; omega) | (refine nd_f ?_; omega) | (simp only [decide_true, Bool.and_self, Bool.not_true]))) | refine Fork.dec (fun h => ?_) (fun h => ?_) | refine Fork.ndec (fun h => ?_) (fun h => ?_) | refine Fork.mk (fun h => ?_) (fun h => ?_)) | (refine OpsL.same ?_; first | refine Ops.pc rfl (Fits.eq rfl) C15 rfl ?_ | (refine Ops.pcp rfl (Fits.eq rfl) C15 rfl ?_ ?_; (· (first | trivial | omega | ((try simp only [R64, true_and, and_true, Int.toNat_natCast, List.length_cons, List.length_nil]); omega)))) | refine Ops.pc rfl (Fits.eq rfl) C28 rfl ?_ | (refine Ops.pcp rfl (Fits.eq rfl) C28 rfl ?_ ?_; (· (first | trivial | omega | ((try simp only [R64, true_and, and_true, Int.toNat_natCast, List.length_cons, List.length_nil]); omega)))) | refine Ops.pc rfl (Fits.eq rfl) C30 rfl ?_ | (refine Ops.pcp rfl (Fits.eq rfl) C30 rfl ?_ ?_; (· (first | trivial | omega | ((try simp only [R64, true_and, and_true, Int.toNat_natCast, List.length_cons, List.length_nil]); omega)))) | refine Ops.pc rfl (Fits.eq rfl) C31 rfl ?_ | (refine Ops.pcp rfl (Fits.eq rfl) C31 rfl ?_ ?_; (· (first | trivial | omega | ((try simp only [R64, true_and, and_true, Int.toNat_natCast, List.length_cons, List.length_nil]); omega)))) | refine Ops.pc rfl (Fits.eq rfl) c1 rfl ?_ | (refine Ops.pcp rfl (Fits.eq rfl) c1 rfl ?_ ?_; (· (first | trivial | omega | ((try simp only [R64, true_and, and_true, Int.toNat_natCast, List.length_cons, List.length_nil]); omega)))) | refine Ops.pc rfl (Fits.eq rfl) c2 rfl ?_ | (refine Ops.pcp rfl (Fits.eq rfl) c2 rfl ?_ ?_; (· (first | trivial | omega | ((try simp only [R64, true_and, and_true, Int.toNat_natCast, List.length_cons, List.length_nil]); omega)))) | refine Ops.pc rfl (Fits.eq rfl) c3 rfl ?_ | (refine Ops.pcp rfl (Fits.eq rfl) c3 rfl ?_ ?_; (· (first | trivial | omega | ((try simp only [R64, true_and, and_true, Int.toNat_natCast, List.length_cons, List.length_nil]); omega)))) | refine Ops.pc rfl (Fits.eq rfl) c4 rfl ?_ | (refine Ops.pcp rfl (Fits.eq rfl) c4 rfl ?_ ?_; (· (first | trivial | omega | ((try simp only [R64, true_and, and_true, Int.toNat_natCast, List.length_cons, List.length_nil]); omega)))) | refine Ops.pc rfl (Fits.eq rfl) c5 rfl ?_ | (refine Ops.pcp rfl (Fits.eq rfl) c5 rfl ?_ ?_; (· (first | trivial | omega | ((try simp only [R64, true_and, and_true, Int.toNat_natCast, List.length_cons, List.length_nil]); omega)))) | refine Ops.pc rfl (Fits.eq rfl) d1 rfl ?_ | (refine Ops.pcp rfl (Fits.eq rfl) d1 rfl ?_ ?_; (· (first | trivial | omega | ((try simp only [R64, true_and, and_true, Int.toNat_natCast, List.length_cons, List.length_nil]); omega)))) | refine Ops.pc rfl (Fits.eq rfl) d2 rfl ?_ | (refine Ops.pcp rfl (Fits.eq rfl) d2 rfl ?_ ?_; (· (first | trivial | omega | ((try simp only [R64, true_and, and_true, Int.toNat_natCast, List.length_cons, List.length_nil]); omega)))) | refine Ops.pc rfl (Fits.eq rfl) d3 rfl ?_ | (refine Ops.pcp rfl (Fits.eq rfl) d3 rfl ?_ ?_; (· (first | trivial | omega | ((try simp only [R64, true_and, and_true, Int.toNat_natCast, List.length_cons, List.length_nil]); omega)))) | refine Ops.pc rfl (Fits.eq rfl) d4 rfl ?_ | (refine Ops.pcp rfl (Fits.eq rfl) d4 rfl ?_ ?_; (· (first | trivial | omega | ((try simp only [R64, true_and, and_true, Int.toNat_natCast, List.length_cons, List.length_nil]); omega)))) | refine Ops.pc rfl (Fits.eq rfl) d5 rfl ?_ | (refine Ops.pcp rfl (Fits.eq rfl) d5 rfl ?_ ?_; (· (first | trivial | omega | ((try simp only [R64, true_and, and_true, Int.toNat_natCast, List.length_cons, List.length_nil]); omega)))) | refine Ops.pc rfl (Fits.eq rfl) e1 rfl ?_ | (refine Ops.pcp rfl (Fits.eq rfl) e1 rfl ?_ ?_; (· (first | trivial | omega | ((try simp only [R64, true_and, and_true, Int.toNat_natCast, List.length_cons, List.length_nil]); omega)))) | refine Ops.pc rfl (Fits.eq rfl) e2 rfl ?_ | (refine Ops.pcp rfl (Fits.eq rfl) e2 rfl ?_ ?_; (· (first | trivial | omega | ((try simp only [R64, true_and, and_true, Int.toNat_natCast, List.length_cons, List.length_nil]); omega)))) | refine Ops.pc rfl (Fits.eq rfl) e3 rfl ?_ | (refine Ops.pcp rfl (Fits.eq rfl) e3 rfl ?_ ?_; (· (first | trivial | omega | ((try simp only [R64, true_and, and_true, Int.toNat_natCast, List.length_cons, List.length_nil]); omega)))) | refine Ops.pc rfl (Fits.eq rfl) e4 rfl ?_ | (refine Ops.pcp rfl (Fits.eq rfl) e4 rfl ?_ ?_; (· (first | trivial | omega | ((try simp only [R64, true_and, and_true, Int.toNat_natCast, List.length_cons, List.length_nil]); omega)))) | refine Ops.pc rfl (Fits.eq rfl) e5 rfl ?_ | (refine Ops.pcp rfl (Fits.eq rfl) e5 rfl ?_ ?_; (· (first | trivial | omega | ((try simp only [R64, true_and, and_true, Int.toNat_natCast, List.length_cons, List.length_nil]); omega)))) ) | (refine OpsDL.same ?_; first | refine OpsD.pc rfl (Fits.eq rfl) C15 rfl ?_ | (refine OpsD.pcp rfl (Fits.eq rfl) C15 rfl ?_ ?_; (· (first | trivial | omega | ((try simp only [R64, true_and, and_true, Int.toNat_natCast, List.length_cons, List.length_nil]); omega)))) | refine OpsD.pc rfl (Fits.eq rfl) C28 rfl ?_ | (refine OpsD.pcp rfl (Fits.eq rfl) C28 rfl ?_ ?_; (· (first | trivial | omega | ((try simp only [R64, true_and, and_true, Int.toNat_natCast, List.length_cons, List.length_nil]); omega)))) | refine OpsD.pc rfl (Fits.eq rfl) C30 rfl ?_ | (refine OpsD.pcp rfl (Fits.eq rfl) C30 rfl ?_ ?_; (· (first | trivial | omega | ((try simp only [R64, true_and, and_true, Int.toNat_natCast, List.length_cons, List.length_nil]); omega)))) | refine OpsD.pc rfl (Fits.eq rfl) C31 rfl ?_ | (refine OpsD.pcp rfl (Fits.eq rfl) C31 rfl ?_ ?_; (· (first | trivial | omega | ((try simp only [R64, true_and, and_true, Int.toNat_natCast, List.length_cons, List.length_nil]); omega)))) | refine OpsD.pc rfl (Fits.eq rfl) c1 rfl ?_ | (refine OpsD.pcp rfl (Fits.eq rfl) c1 rfl ?_ ?_; (· (first | trivial | omega | ((try simp only [R64, true_and, and_true, Int.toNat_natCast, List.length_cons, List.length_nil]); omega)))) | refine OpsD.pc rfl (Fits.eq rfl) c2 rfl ?_ | (refine OpsD.pcp rfl (Fits.eq rfl) c2 rfl ?_ ?_; (· (first | trivial | omega | ((try simp only [R64, true_and, and_true, Int.toNat_natCast, List.length_cons, List.length_nil]); omega)))) | refine OpsD.pc rfl (Fits.eq rfl) c3 rfl ?_ | (refine OpsD.pcp rfl (Fits.eq rfl) c3 rfl ?_ ?_; (· (first | trivial | omega | ((try simp only [R64, true_and, and_true, Int.toNat_natCast, List.length_cons, List.length_nil]); omega)))) | refine OpsD.pc rfl (Fits.eq rfl) c4 rfl ?_ | (refine OpsD.pcp rfl (Fits.eq rfl) c4 rfl ?_ ?_; (· (first | trivial | omega | ((try simp only [R64, true_and, and_true, Int.toNat_natCast, List.length_cons, List.length_nil]); omega)))) | refine OpsD.pc rfl (Fits.eq rfl) c5 rfl ?_ | (refine OpsD.pcp rfl (Fits.eq rfl) c5 rfl ?_ ?_; (· (first | trivial | omega | ((try simp only [R64, true_and, and_true, Int.toNat_natCast, List.length_cons, List.length_nil]); omega)))) | refine OpsD.pc rfl (Fits.eq rfl) d1 rfl ?_ | (refine OpsD.pcp rfl (Fits.eq rfl) d1 rfl ?_ ?_; (· (first | trivial | omega | ((try simp only [R64, true_and, and_true, Int.toNat_natCast, List.length_cons, List.length_nil]); omega)))) | refine OpsD.pc rfl (Fits.eq rfl) d2 rfl ?_ | (refine OpsD.pcp rfl (Fits.eq rfl) d2 rfl ?_ ?_; (· (first | trivial | omega | ((try simp only [R64, true_and, and_true, Int.toNat_natCast, List.length_cons, List.length_nil]); omega)))) | refine OpsD.pc rfl (Fits.eq rfl) d3 rfl ?_ | (refine OpsD.pcp rfl (Fits.eq rfl) d3 rfl ?_ ?_; (· (first | trivial | omega | ((try simp only [R64, true_and, and_true, Int.toNat_natCast, List.length_cons, List.length_nil]); omega)))) | refine OpsD.pc rfl (Fits.eq rfl) d4 rfl ?_ | (refine OpsD.pcp rfl (Fits.eq rfl) d4 rfl ?_ ?_; (· (first | trivial | omega | ((try simp only [R64, true_and, and_true, Int.toNat_natCast, List.length_cons, List.length_nil]); omega)))) | refine OpsD.pc rfl (Fits.eq rfl) d5 rfl ?_ | (refine OpsD.pcp rfl (Fits.eq rfl) d5 rfl ?_ ?_; (· (first | trivial | omega | ((try simp only [R64, true_and, and_true, Int.toNat_natCast, List.length_cons, List.length_nil]); omega)))) | refine OpsD.pc rfl (Fits.eq rfl) e1 rfl ?_ | (refine OpsD.pcp rfl (Fits.eq rfl) e1 rfl ?_ ?_; (· (first | trivial | omega | ((try simp only [R64, true_and, and_true, Int.toNat_natCast, List.length_cons, List.length_nil]); omega)))) | refine OpsD.pc rfl (Fits.eq rfl) e2 rfl ?_ | (refine OpsD.pcp rfl (Fits.eq rfl) e2 rfl ?_ ?_; (· (first | trivial | omega | ((try simp only [R64, true_and, and_true, Int.toNat_natCast, List.length_cons, List.length_nil]); omega)))) | refine OpsD.pc rfl (Fits.eq rfl) e3 rfl ?_ | (refine OpsD.pcp rfl (Fits.eq rfl) e3 rfl ?_ ?_; (· (first | trivial | omega | ((try simp only [R64, true_and, and_true, Int.toNat_natCast, List.length_cons, List.length_nil]); omega)))) | refine OpsD.pc rfl (Fits.eq rfl) e4 rfl ?_ | (refine OpsD.pcp rfl (Fits.eq rfl) e4 rfl ?_ ?_; (· (first | trivial | omega | ((try simp only [R64, true_and, and_true, Int.toNat_natCast, List.length_cons, List.length_nil]); omega)))) | refine OpsD.pc rfl (Fits.eq rfl) e5 rfl ?_ | (refine OpsD.pcp rfl (Fits.eq rfl) e5 rfl ?_ ?_; (· (first | trivial | omega | ((try simp only [R64, true_and, and_true, Int.toNat_natCast, List.length_cons, List.length_nil]); omega)))) ) | refine MvQ.stay ?_ | refine Owe.mk ?_ ?_)
            all_goals (refine RetQ.plain (Nat.le_refl _) (by first | exact .inr rfl | exact .inl rfl) rfl (by (simp only [cloL, clo, cloC, cloCs, and_self])) ?_; (repeat' first | exact True.intro | exact VEq.refl _ | exact EEq.same _ | exact CEq.refl _ | exact VEq.int rfl | apply VEq.tru | apply VEq.fls | apply VEq.bool | apply VEq.int | exact VEq.nill rfl | exact VEq.zl rfl | exact VEq.nil | exact VEq.li_1 | exact VEq.li_2 | exact VEq.li_3 | exact VEq.li_4 | exact VEq.lp_1 | exact VEq.lp_2 | exact VEq.lp_3 | exact VEq.lp_4 | exact VEq.lt_1 | exact VEq.lt_2 | exact VEq.lt_3 | apply VEq.ms | apply VEq.sll | apply VEq.aggs | apply EEq.boxs | apply EEq.app1 | apply EEq.app2 | apply EEq.app3 | apply CEq.ms | apply CEq.int | apply CEq.sll | exact CEq.nill rfl | apply And.intro | exact rfl))
          · rw [show shE 0 B = 0 by rw [shE, if_pos rfl, if_neg hb], if_pos rfl, if_pos rfl] at d5
            rw [decide_eq_true (by omega)] at e5
            have hs := hsh (by omega) B.length (Nat.le_refl _)
            refine PFD.of (vs := [_]) fn8 rfl (by (simp only [cloL, clo, cloC, cloCs, and_self])) ?_
            (repeat' first | (refine Owe.mk ?_ ?_; (· (first | trivial | omega | ((try simp only [R64, true_and, and_true, Int.toNat_natCast, List.length_cons, List.length_nil]); omega)))) | (refine Fork.same ?_; first | (refine Fork.yes ?_ ?_; (· first | exact rfl | (refine decide_eq_true ?_; omega) | (refine nd_t ?_; omega) | (simp only [decide_true, Bool.and_self, Bool.not_false]))) | (refine Fork.no ?_ ?_; (· first | exact rfl | (refine decide_eq_false ?_; omega) | (refine nd_f ?_; omega) | (simp only [decide_true, Bool.and_self, Bool.not_true]))) | refine Fork.dec (fun h => ?_) (fun h => ?_) | refine Fork.ndec (fun h => ?_) (fun h => ?_) | refine Fork.mk (fun h => ?_) (fun h => ?_)) | (refine OpsL.same ?_; first | refine Ops.pc rfl (Fits.eq rfl) C15 rfl ?_ | (refine Ops.pcp rfl (Fits.eq rfl) C15 rfl ?_ ?_; (· (first | trivial | omega | ((try simp only [R64, true_and, and_true, Int.toNat_natCast, List.length_cons, List.length_nil]); omega)))) | refine Ops.pc rfl (Fits.eq rfl) C28 rfl ?_ | (refine Ops.pcp rfl (Fits.eq rfl) C28 rfl ?_ ?_; (· (first | trivial | omega | ((try simp only [R64, true_and, and_true, Int.toNat_natCast, List.length_cons, List.length_nil]); omega)))) | refine Ops.pc rfl (Fits.eq rfl) C30 rfl ?_ | (refine Ops.pcp rfl (Fits.eq rfl) C30 rfl ?_ ?_; (· (first | trivial | omega | ((try simp only [R64, true_and, and_true, Int.toNat_natCast, List.length_cons, List.length_nil]); omega)))) | refine Ops.pc rfl (Fits.eq rfl) C31 rfl ?_ | (refine Ops.pcp rfl (Fits.eq rfl) C31 rfl ?_ ?_; (· (first | trivial | omega | ((try simp only [R64, true_and, and_true, Int.toNat_natCast, List.length_cons, List.length_nil]); omega)))) | refine Ops.pc rfl (Fits.eq rfl) c1 rfl ?_ | (refine Ops.pcp rfl (Fits.eq rfl) c1 rfl ?_ ?_; (· (first | trivial | omega | ((try simp only [R64, true_and, and_true, Int.toNat_natCast, List.length_cons, List.length_nil]); omega)))) | refine Ops.pc rfl (Fits.eq rfl) c2 rfl ?_ | (refine Ops.pcp rfl (Fits.eq rfl) c2 rfl ?_ ?_; (· (first | trivial | omega | ((try simp only [R64, true_and, and_true, Int.toNat_natCast, List.length_cons, List.length_nil]); omega)))) | refine Ops.pc rfl (Fits.eq rfl) c3 rfl ?_ | (refine Ops.pcp rfl (Fits.eq rfl) c3 rfl ?_ ?_; (· (first | trivial | omega | ((try simp only [R64, true_and, and_true, Int.toNat_natCast, List.length_cons, List.length_nil]); omega)))) | refine Ops.pc rfl (Fits.eq rfl) c4 rfl ?_ | (refine Ops.pcp rfl (Fits.eq rfl) c4 rfl ?_ ?_; (· (first | trivial | omega | ((try simp only [R64, true_and, and_true, Int.toNat_natCast, List.length_cons, List.length_nil]); omega)))) | refine Ops.pc rfl (Fits.eq rfl) c5 rfl ?_ | (refine Ops.pcp rfl (Fits.eq rfl) c5 rfl ?_ ?_; (· (first | trivial | omega | ((try simp only [R64, true_and, and_true, Int.toNat_natCast, List.length_cons, List.length_nil]); omega)))) | refine Ops.pc rfl (Fits.eq rfl) d1 rfl ?_ | (refine Ops.pcp rfl (Fits.eq rfl) d1 rfl ?_ ?_; (· (first | trivial | omega | ((try simp only [R64, true_and, and_true, Int.toNat_natCast, List.length_cons, List.length_nil]); omega)))) | refine Ops.pc rfl (Fits.eq rfl) d2 rfl ?_ | (refine Ops.pcp rfl (Fits.eq rfl) d2 rfl ?_ ?_; (· (first | trivial | omega | ((try simp only [R64, true_and, and_true, Int.toNat_natCast, List.length_cons, List.length_nil]); omega)))) | refine Ops.pc rfl (Fits.eq rfl) d3 rfl ?_ | (refine Ops.pcp rfl (Fits.eq rfl) d3 rfl ?_ ?_; (· (first | trivial | omega | ((try simp only [R64, true_and, and_true, Int.toNat_natCast, List.length_cons, List.length_nil]); omega)))) | refine Ops.pc rfl (Fits.eq rfl) d4 rfl ?_ | (refine Ops.pcp rfl (Fits.eq rfl) d4 rfl ?_ ?_; (· (first | trivial | omega | ((try simp only [R64, true_and, and_true, Int.toNat_natCast, List.length_cons, List.length_nil]); omega)))) | refine Ops.pc rfl (Fits.eq rfl) d5 rfl ?_ | (refine Ops.pcp rfl (Fits.eq rfl) d5 rfl ?_ ?_; (· (first | trivial | omega | ((try simp only [R64, true_and, and_true, Int.toNat_natCast, List.length_cons, List.length_nil]); omega)))) | refine Ops.pc rfl (Fits.eq rfl) e1 rfl ?_ | (refine Ops.pcp rfl (Fits.eq rfl) e1 rfl ?_ ?_; (· (first | trivial | omega | ((try simp only [R64, true_and, and_true, Int.toNat_natCast, List.length_cons, List.length_nil]); omega)))) | refine Ops.pc rfl (Fits.eq rfl) e2 rfl ?_ | (refine Ops.pcp rfl (Fits.eq rfl) e2 rfl ?_ ?_; (· (first | trivial | omega | ((try simp only [R64, true_and, and_true, Int.toNat_natCast, List.length_cons, List.length_nil]); omega)))) | refine Ops.pc rfl (Fits.eq rfl) e3 rfl ?_ | (refine Ops.pcp rfl (Fits.eq rfl) e3 rfl ?_ ?_; (· (first | trivial | omega | ((try simp only [R64, true_and, and_true, Int.toNat_natCast, List.length_cons, List.length_nil]); omega)))) | refine Ops.pc rfl (Fits.eq rfl) e4 rfl ?_ | (refine Ops.pcp rfl (Fits.eq rfl) e4 rfl ?_ ?_; (· (first | trivial | omega | ((try simp only [R64, true_and, and_true, Int.toNat_natCast, List.length_cons, List.length_nil]); omega)))) | refine Ops.pc rfl (Fits.eq rfl) e5 rfl ?_ | (refine Ops.pcp rfl (Fits.eq rfl) e5 rfl ?_ ?_; (· (first | trivial | omega | ((try simp only [R64, true_and, and_true, Int.toNat_natCast, List.length_cons, List.length_nil]); omega)))) ) | (refine OpsDL.same ?_; first | refine OpsD.pc rfl (Fits.eq rfl) C15 rfl ?_ | (refine OpsD.pcp rfl (Fits.eq rfl) C15 rfl ?_ ?_; (· (first | trivial | omega | ((try simp only [R64, true_and, and_true, Int.toNat_natCast, List.length_cons, List.length_nil]); omega)))) | refine OpsD.pc rfl (Fits.eq rfl) C28 rfl ?_ | (refine OpsD.pcp rfl (Fits.eq rfl) C28 rfl ?_ ?_; (· (first | trivial | omega | ((try simp only [R64, true_and, and_true, Int.toNat_natCast, List.length_cons, List.length_nil]); omega)))) | refine OpsD.pc rfl (Fits.eq rfl) C30 rfl ?_ | (refine OpsD.pcp rfl (Fits.eq rfl) C30 rfl ?_ ?_; (· (first | trivial | omega | ((try simp only [R64, true_and, and_true, Int.toNat_natCast, List.length_cons, List.length_nil]); omega)))) | refine OpsD.pc rfl (Fits.eq rfl) C31 rfl ?_ | (refine OpsD.pcp rfl (Fits.eq rfl) C31 rfl ?_ ?_; (· (first | trivial | omega | ((try simp only [R64, true_and, and_true, Int.toNat_natCast, List.length_cons, List.length_nil]); omega)))) | refine OpsD.pc rfl (Fits.eq rfl) c1 rfl ?_ | (refine OpsD.pcp rfl (Fits.eq rfl) c1 rfl ?_ ?_; (· (first | trivial | omega | ((try simp only [R64, true_and, and_true, Int.toNat_natCast, List.length_cons, List.length_nil]); omega)))) | refine OpsD.pc rfl (Fits.eq rfl) c2 rfl ?_ | (refine OpsD.pcp rfl (Fits.eq rfl) c2 rfl ?_ ?_; (· (first | trivial | omega | ((try simp only [R64, true_and, and_true, Int.toNat_natCast, List.length_cons, List.length_nil]); omega)))) | refine OpsD.pc rfl (Fits.eq rfl) c3 rfl ?_ | (refine OpsD.pcp rfl (Fits.eq rfl) c3 rfl ?_ ?_; (· (first | trivial | omega | ((try simp only [R64, true_and, and_true, Int.toNat_natCast, List.length_cons, List.length_nil]); omega)))) | refine OpsD.pc rfl (Fits.eq rfl) c4 rfl ?_ | (refine OpsD.pcp rfl (Fits.eq rfl) c4 rfl ?_ ?_; (· (first | trivial | omega | ((try simp only [R64, true_and, and_true, Int.toNat_natCast, List.length_cons, List.length_nil]); omega)))) | refine OpsD.pc rfl (Fits.eq rfl) c5 rfl ?_ | (refine OpsD.pcp rfl (Fits.eq rfl) c5 rfl ?_ ?_; (· (first | trivial | omega | ((try simp only [R64, true_and, and_true, Int.toNat_natCast, List.length_cons, List.length_nil]); omega)))) | refine OpsD.pc rfl (Fits.eq rfl) d1 rfl ?_ | (refine OpsD.pcp rfl (Fits.eq rfl) d1 rfl ?_ ?_; (· (first | trivial | omega | ((try simp only [R64, true_and, and_true, Int.toNat_natCast, List.length_cons, List.length_nil]); omega)))) | refine OpsD.pc rfl (Fits.eq rfl) d2 rfl ?_ | (refine OpsD.pcp rfl (Fits.eq rfl) d2 rfl ?_ ?_; (· (first | trivial | omega | ((try simp only [R64, true_and, and_true, Int.toNat_natCast, List.length_cons, List.length_nil]); omega)))) | refine OpsD.pc rfl (Fits.eq rfl) d3 rfl ?_ | (refine OpsD.pcp rfl (Fits.eq rfl) d3 rfl ?_ ?_; (· (first | trivial | omega | ((try simp only [R64, true_and, and_true, Int.toNat_natCast, List.length_cons, List.length_nil]); omega)))) | refine OpsD.pc rfl (Fits.eq rfl) d4 rfl ?_ | (refine OpsD.pcp rfl (Fits.eq rfl) d4 rfl ?_ ?_; (· (first | trivial | omega | ((try simp only [R64, true_and, and_true, Int.toNat_natCast, List.length_cons, List.length_nil]); omega)))) | refine OpsD.pc rfl (Fits.eq rfl) d5 rfl ?_ | (refine OpsD.pcp rfl (Fits.eq rfl) d5 rfl ?_ ?_; (· (first | trivial | omega | ((try simp only [R64, true_and, and_true, Int.toNat_natCast, List.length_cons, List.length_nil]); omega)))) | refine OpsD.pc rfl (Fits.eq rfl) e1 rfl ?_ | (refine OpsD.pcp rfl (Fits.eq rfl) e1 rfl ?_ ?_; (· (first | trivial | omega | ((try simp only [R64, true_and, and_true, Int.toNat_natCast, List.length_cons, List.length_nil]); omega)))) | refine OpsD.pc rfl (Fits.eq rfl) e2 rfl ?_ | (refine OpsD.pcp rfl (Fits.eq rfl) e2 rfl ?_ ?_; (· (first | trivial | omega | ((try simp only [R64, true_and, and_true, Int.toNat_natCast, List.length_cons, List.length_nil]); omega)))) | refine OpsD.pc rfl (Fits.eq rfl) e3 rfl ?_ | (refine OpsD.pcp rfl (Fits.eq rfl) e3 rfl ?_ ?_; (· (first | trivial | omega | ((try simp only [R64, true_and, and_true, Int.toNat_natCast, List.length_cons, List.length_nil]); omega)))) | refine OpsD.pc rfl (Fits.eq rfl) e4 rfl ?_ | (refine OpsD.pcp rfl (Fits.eq rfl) e4 rfl ?_ ?_; (· (first | trivial | omega | ((try simp only [R64, true_and, and_true, Int.toNat_natCast, List.length_cons, List.length_nil]); omega)))) | refine OpsD.pc rfl (Fits.eq rfl) e5 rfl ?_ | (refine OpsD.pcp rfl (Fits.eq rfl) e5 rfl ?_ ?_; (· (first | trivial | omega | ((try simp only [R64, true_and, and_true, Int.toNat_natCast, List.length_cons, List.length_nil]); omega)))) ) | refine MvQ.stay ?_ | refine Owe.mk ?_ ?_)
            all_goals (refine RetQ.plain (Nat.le_refl _) (by first | exact .inr rfl | exact .inl rfl) rfl (by (simp only [cloL, clo, cloC, cloCs, and_self])) ?_; (repeat' first | exact True.intro | exact VEq.refl _ | exact EEq.same _ | exact CEq.refl _ | exact VEq.int rfl | apply VEq.tru | apply VEq.fls | apply VEq.bool | apply VEq.int | exact VEq.nill rfl | exact VEq.zl rfl | exact VEq.nil | exact VEq.li_1 | exact VEq.li_2 | exact VEq.li_3 | exact VEq.li_4 | exact VEq.lp_1 | exact VEq.lp_2 | exact VEq.lp_3 | exact VEq.lp_4 | exact VEq.lt_1 | exact VEq.lt_2 | exact VEq.lt_3 | apply VEq.ms | apply VEq.sll | apply VEq.aggs | apply EEq.boxs | apply EEq.app1 | apply EEq.app2 | apply EEq.app3 | apply CEq.ms | apply CEq.int | apply CEq.sll | exact CEq.nill rfl | apply And.intro | exact rfl))
            simp
        · obtain ⟨d1, d2, d3, d4, d5⟩ := shapes_err hlc he h2
          refine PFD.of (vs := [_]) fn8 rfl (by (simp only [cloL, clo, cloC, cloCs, and_self])) ?_
          (repeat' first | (refine Owe.mk ?_ ?_; (· (first | trivial | omega | ((try simp only [R64, true_and, and_true, Int.toNat_natCast, List.length_cons, List.length_nil]); omega)))) | (refine Fork.same ?_; first | (refine Fork.yes ?_ ?_; (· first | exact rfl | (refine decide_eq_true ?_; omega) | (refine nd_t ?_; omega) | (simp only [decide_true, Bool.and_self, Bool.not_false]))) | (refine Fork.no ?_ ?_; (· first | exact rfl | (refine decide_eq_false ?_; omega) | (refine nd_f ?_; omega) | (simp only [decide_true, Bool.and_self, Bool.not_true]))) | refine Fork.dec (fun h => ?_) (fun h => ?_) | refine Fork.ndec (fun h => ?_) (fun h => ?_) | refine Fork.mk (fun h => ?_) (fun h => ?_)) | (refine OpsL.same ?_; first | refine Ops.pc rfl (Fits.eq rfl) C15 rfl ?_ | (refine Ops.pcp rfl (Fits.eq rfl) C15 rfl ?_ ?_; (· (first | trivial | omega | ((try simp only [R64, true_and, and_true, Int.toNat_natCast, List.length_cons, List.length_nil]); omega)))) | refine Ops.pc rfl (Fits.eq rfl) C28 rfl ?_ | (refine Ops.pcp rfl (Fits.eq rfl) C28 rfl ?_ ?_; (· (first | trivial | omega | ((try simp only [R64, true_and, and_true, Int.toNat_natCast, List.length_cons, List.length_nil]); omega)))) | refine Ops.pc rfl (Fits.eq rfl) C30 rfl ?_ | (refine Ops.pcp rfl (Fits.eq rfl) C30 rfl ?_ ?_; (· (first | trivial | omega | ((try simp only [R64, true_and, and_true, Int.toNat_natCast, List.length_cons, List.length_nil]); omega)))) | refine Ops.pc rfl (Fits.eq rfl) C31 rfl ?_ | (refine Ops.pcp rfl (Fits.eq rfl) C31 rfl ?_ ?_; (· (first | trivial | omega | ((try simp only [R64, true_and, and_true, Int.toNat_natCast, List.length_cons, List.length_nil]); omega)))) | refine Ops.pc rfl (Fits.eq rfl) c1 rfl ?_ | (refine Ops.pcp rfl (Fits.eq rfl) c1 rfl ?_ ?_; (· (first | trivial | omega | ((try simp only [R64, true_and, and_true, Int.toNat_natCast, List.length_cons, List.length_nil]); omega)))) | refine Ops.pc rfl (Fits.eq rfl) c2 rfl ?_ | (refine Ops.pcp rfl (Fits.eq rfl) c2 rfl ?_ ?_; (· (first | trivial | omega | ((try simp only [R64, true_and, and_true, Int.toNat_natCast, List.length_cons, List.length_nil]); omega)))) | refine Ops.pc rfl (Fits.eq rfl) c3 rfl ?_ | (refine Ops.pcp rfl (Fits.eq rfl) c3 rfl ?_ ?_; (· (first | trivial | omega | ((try simp only [R64, true_and, and_true, Int.toNat_natCast, List.length_cons, List.length_nil]); omega)))) | refine Ops.pc rfl (Fits.eq rfl) d1 rfl ?_ | (refine Ops.pcp rfl (Fits.eq rfl) d1 rfl ?_ ?_; (· (first | trivial | omega | ((try simp only [R64, true_and, and_true, Int.toNat_natCast, List.length_cons, List.length_nil]); omega)))) | refine Ops.pc rfl (Fits.eq rfl) d2 rfl ?_ | (refine Ops.pcp rfl (Fits.eq rfl) d2 rfl ?_ ?_; (· (first | trivial | omega | ((try simp only [R64, true_and, and_true, Int.toNat_natCast, List.length_cons, List.length_nil]); omega)))) | refine Ops.pc rfl (Fits.eq rfl) d3 rfl ?_ | (refine Ops.pcp rfl (Fits.eq rfl) d3 rfl ?_ ?_; (· (first | trivial | omega | ((try simp only [R64, true_and, and_true, Int.toNat_natCast, List.length_cons, List.length_nil]); omega)))) | refine Ops.pc rfl (Fits.eq rfl) d4 rfl ?_ | (refine Ops.pcp rfl (Fits.eq rfl) d4 rfl ?_ ?_; (· (first | trivial | omega | ((try simp only [R64, true_and, and_true, Int.toNat_natCast, List.length_cons, List.length_nil]); omega)))) | refine Ops.pc rfl (Fits.eq rfl) d5 rfl ?_ | (refine Ops.pcp rfl (Fits.eq rfl) d5 rfl ?_ ?_; (· (first | trivial | omega | ((try simp only [R64, true_and, and_true, Int.toNat_natCast, List.length_cons, List.length_nil]); omega)))) ) | (refine OpsDL.same ?_; first | refine OpsD.pc rfl (Fits.eq rfl) C15 rfl ?_ | (refine OpsD.pcp rfl (Fits.eq rfl) C15 rfl ?_ ?_; (· (first | trivial | omega | ((try simp only [R64, true_and, and_true, Int.toNat_natCast, List.length_cons, List.length_nil]); omega)))) | refine OpsD.pc rfl (Fits.eq rfl) C28 rfl ?_ | (refine OpsD.pcp rfl (Fits.eq rfl) C28 rfl ?_ ?_; (· (first | trivial | omega | ((try simp only [R64, true_and, and_true, Int.toNat_natCast, List.length_cons, List.length_nil]); omega)))) | refine OpsD.pc rfl (Fits.eq rfl) C30 rfl ?_ | (refine OpsD.pcp rfl (Fits.eq rfl) C30 rfl ?_ ?_; (· (first | trivial | omega | ((try simp only [R64, true_and, and_true, Int.toNat_natCast, List.length_cons, List.length_nil]); omega)))) | refine OpsD.pc rfl (Fits.eq rfl) C31 rfl ?_ | (refine OpsD.pcp rfl (Fits.eq rfl) C31 rfl ?_ ?_; (· (first | trivial | omega | ((try simp only [R64, true_and, and_true, Int.toNat_natCast, List.length_cons, List.length_nil]); omega)))) | refine OpsD.pc rfl (Fits.eq rfl) c1 rfl ?_ | (refine OpsD.pcp rfl (Fits.eq rfl) c1 rfl ?_ ?_; (· (first | trivial | omega | ((try simp only [R64, true_and, and_true, Int.toNat_natCast, List.length_cons, List.length_nil]); omega)))) | refine OpsD.pc rfl (Fits.eq rfl) c2 rfl ?_ | (refine OpsD.pcp rfl (Fits.eq rfl) c2 rfl ?_ ?_; (· (first | trivial | omega | ((try simp only [R64, true_and, and_true, Int.toNat_natCast, List.length_cons, List.length_nil]); omega)))) | refine OpsD.pc rfl (Fits.eq rfl) c3 rfl ?_ | (refine OpsD.pcp rfl (Fits.eq rfl) c3 rfl ?_ ?_; (· (first | trivial | omega | ((try simp only [R64, true_and, and_true, Int.toNat_natCast, List.length_cons, List.length_nil]); omega)))) | refine OpsD.pc rfl (Fits.eq rfl) d1 rfl ?_ | (refine OpsD.pcp rfl (Fits.eq rfl) d1 rfl ?_ ?_; (· (first | trivial | omega | ((try simp only [R64, true_and, and_true, Int.toNat_natCast, List.length_cons, List.length_nil]); omega)))) | refine OpsD.pc rfl (Fits.eq rfl) d2 rfl ?_ | (refine OpsD.pcp rfl (Fits.eq rfl) d2 rfl ?_ ?_; (· (first | trivial | omega | ((try simp only [R64, true_and, and_true, Int.toNat_natCast, List.length_cons, List.length_nil]); omega)))) | refine OpsD.pc rfl (Fits.eq rfl) d3 rfl ?_ | (refine OpsD.pcp rfl (Fits.eq rfl) d3 rfl ?_ ?_; (· (first | trivial | omega | ((try simp only [R64, true_and, and_true, Int.toNat_natCast, List.length_cons, List.length_nil]); omega)))) | refine OpsD.pc rfl (Fits.eq rfl) d4 rfl ?_ | (refine OpsD.pcp rfl (Fits.eq rfl) d4 rfl ?_ ?_; (· (first | trivial | omega | ((try simp only [R64, true_and, and_true, Int.toNat_natCast, List.length_cons, List.length_nil]); omega)))) | refine OpsD.pc rfl (Fits.eq rfl) d5 rfl ?_ | (refine OpsD.pcp rfl (Fits.eq rfl) d5 rfl ?_ ?_; (· (first | trivial | omega | ((try simp only [R64, true_and, and_true, Int.toNat_natCast, List.length_cons, List.length_nil]); omega)))) ) | refine MvQ.stay ?_ | refine Owe.mk ?_ ?_)
          all_goals (refine RetQ.plain (Nat.le_refl _) (by first | exact .inr rfl | exact .inl rfl) rfl (by (simp only [cloL, clo, cloC, cloCs, and_self])) ?_; (repeat' first | exact True.intro | exact VEq.refl _ | exact EEq.same _ | exact CEq.refl _ | exact VEq.int rfl | apply VEq.tru | apply VEq.fls | apply VEq.bool | apply VEq.int | exact VEq.nill rfl | exact VEq.zl rfl | exact VEq.nil | exact VEq.li_1 | exact VEq.li_2 | exact VEq.li_3 | exact VEq.li_4 | exact VEq.lp_1 | exact VEq.lp_2 | exact VEq.lp_3 | exact VEq.lp_4 | exact VEq.lt_1 | exact VEq.lt_2 | exact VEq.lt_3 | apply VEq.ms | apply VEq.sll | apply VEq.aggs | apply EEq.boxs | apply EEq.app1 | apply EEq.app2 | apply EEq.app3 | apply CEq.ms | apply CEq.int | apply CEq.sll | exact CEq.nill rfl | apply And.intro | exact rfl))
      · obtain ⟨d1, d2, d3, d4, d5⟩ := shapes_err hlc (show tgE (opn x z l c) = curE l.length c by rw [tgE, ho, if_neg h1]) h1
        refine PFD.of (vs := [_]) fn8 rfl (by (simp only [cloL, clo, cloC, cloCs, and_self])) ?_
        (repeat' first | (refine Owe.mk ?_ ?_; (· (first | trivial | omega | ((try simp only [R64, true_and, and_true, Int.toNat_natCast, List.length_cons, List.length_nil]); omega)))) | (refine Fork.same ?_; first | (refine Fork.yes ?_ ?_; (· first | exact rfl | (refine decide_eq_true ?_; omega) | (refine nd_t ?_; omega) | (simp only [decide_true, Bool.and_self, Bool.not_false]))) | (refine Fork.no ?_ ?_; (· first | exact rfl | (refine decide_eq_false ?_; omega) | (refine nd_f ?_; omega) | (simp only [decide_true, Bool.and_self, Bool.not_true]))) | refine Fork.dec (fun h => ?_) (fun h => ?_) | refine Fork.ndec (fun h => ?_) (fun h => ?_) | refine Fork.mk (fun h => ?_) (fun h => ?_)) | (refine OpsL.same ?_; first | refine Ops.pc rfl (Fits.eq rfl) C15 rfl ?_ | (refine Ops.pcp rfl (Fits.eq rfl) C15 rfl ?_ ?_; (· (first | trivial | omega | ((try simp only [R64, true_and, and_true, Int.toNat_natCast, List.length_cons, List.length_nil]); omega)))) | refine Ops.pc rfl (Fits.eq rfl) C28 rfl ?_ | (refine Ops.pcp rfl (Fits.eq rfl) C28 rfl ?_ ?_; (· (first | trivial | omega | ((try simp only [R64, true_and, and_true, Int.toNat_natCast, List.length_cons, List.length_nil]); omega)))) | refine Ops.pc rfl (Fits.eq rfl) C30 rfl ?_ | (refine Ops.pcp rfl (Fits.eq rfl) C30 rfl ?_ ?_; (· (first | trivial | omega | ((try simp only [R64, true_and, and_true, Int.toNat_natCast, List.length_cons, List.length_nil]); omega)))) | refine Ops.pc rfl (Fits.eq rfl) C31 rfl ?_ | (refine Ops.pcp rfl (Fits.eq rfl) C31 rfl ?_ ?_; (· (first | trivial | omega | ((try simp only [R64, true_and, and_true, Int.toNat_natCast, List.length_cons, List.length_nil]); omega)))) | refine Ops.pc rfl (Fits.eq rfl) c1 rfl ?_ | (refine Ops.pcp rfl (Fits.eq rfl) c1 rfl ?_ ?_; (· (first | trivial | omega | ((try simp only [R64, true_and, and_true, Int.toNat_natCast, List.length_cons, List.length_nil]); omega)))) | refine Ops.pc rfl (Fits.eq rfl) c2 rfl ?_ | (refine Ops.pcp rfl (Fits.eq rfl) c2 rfl ?_ ?_; (· (first | trivial | omega | ((try simp only [R64, true_and, and_true, Int.toNat_natCast, List.length_cons, List.length_nil]); omega)))) | refine Ops.pc rfl (Fits.eq rfl) d1 rfl ?_ | (refine Ops.pcp rfl (Fits.eq rfl) d1 rfl ?_ ?_; (· (first | trivial | omega | ((try simp only [R64, true_and, and_true, Int.toNat_natCast, List.length_cons, List.length_nil]); omega)))) | refine Ops.pc rfl (Fits.eq rfl) d2 rfl ?_ | (refine Ops.pcp rfl (Fits.eq rfl) d2 rfl ?_ ?_; (· (first | trivial | omega | ((try simp only [R64, true_and, and_true, Int.toNat_natCast, List.length_cons, List.length_nil]); omega)))) | refine Ops.pc rfl (Fits.eq rfl) d3 rfl ?_ | (refine Ops.pcp rfl (Fits.eq rfl) d3 rfl ?_ ?_; (· (first | trivial | omega | ((try simp only [R64, true_and, and_true, Int.toNat_natCast, List.length_cons, List.length_nil]); omega)))) | refine Ops.pc rfl (Fits.eq rfl) d4 rfl ?_ | (refine Ops.pcp rfl (Fits.eq rfl) d4 rfl ?_ ?_; (· (first | trivial | omega | ((try simp only [R64, true_and, and_true, Int.toNat_natCast, List.length_cons, List.length_nil]); omega)))) | refine Ops.pc rfl (Fits.eq rfl) d5 rfl ?_ | (refine Ops.pcp rfl (Fits.eq rfl) d5 rfl ?_ ?_; (· (first | trivial | omega | ((try simp only [R64, true_and, and_true, Int.toNat_natCast, List.length_cons, List.length_nil]); omega)))) ) | (refine OpsDL.same ?_; first | refine OpsD.pc rfl (Fits.eq rfl) C15 rfl ?_ | (refine OpsD.pcp rfl (Fits.eq rfl) C15 rfl ?_ ?_; (· (first | trivial | omega | ((try simp only [R64, true_and, and_true, Int.toNat_natCast, List.length_cons, List.length_nil]); omega)))) | refine OpsD.pc rfl (Fits.eq rfl) C28 rfl ?_ | (refine OpsD.pcp rfl (Fits.eq rfl) C28 rfl ?_ ?_; (· (first | trivial | omega | ((try simp only [R64, true_and, and_true, Int.toNat_natCast, List.length_cons, List.length_nil]); omega)))) | refine OpsD.pc rfl (Fits.eq rfl) C30 rfl ?_ | (refine OpsD.pcp rfl (Fits.eq rfl) C30 rfl ?_ ?_; (· (first | trivial | omega | ((try simp only [R64, true_and, and_true, Int.toNat_natCast, List.length_cons, List.length_nil]); omega)))) | refine OpsD.pc rfl (Fits.eq rfl) C31 rfl ?_ | (refine OpsD.pcp rfl (Fits.eq rfl) C31 rfl ?_ ?_; (· (first | trivial | omega | ((try simp only [R64, true_and, and_true, Int.toNat_natCast, List.length_cons, List.length_nil]); omega)))) | refine OpsD.pc rfl (Fits.eq rfl) c1 rfl ?_ | (refine OpsD.pcp rfl (Fits.eq rfl) c1 rfl ?_ ?_; (· (first | trivial | omega | ((try simp only [R64, true_and, and_true, Int.toNat_natCast, List.length_cons, List.length_nil]); omega)))) | refine OpsD.pc rfl (Fits.eq rfl) c2 rfl ?_ | (refine OpsD.pcp rfl (Fits.eq rfl) c2 rfl ?_ ?_; (· (first | trivial | omega | ((try simp only [R64, true_and, and_true, Int.toNat_natCast, List.length_cons, List.length_nil]); omega)))) | refine OpsD.pc rfl (Fits.eq rfl) d1 rfl ?_ | (refine OpsD.pcp rfl (Fits.eq rfl) d1 rfl ?_ ?_; (· (first | trivial | omega | ((try simp only [R64, true_and, and_true, Int.toNat_natCast, List.length_cons, List.length_nil]); omega)))) | refine OpsD.pc rfl (Fits.eq rfl) d2 rfl ?_ | (refine OpsD.pcp rfl (Fits.eq rfl) d2 rfl ?_ ?_; (· (first | trivial | omega | ((try simp only [R64, true_and, and_true, Int.toNat_natCast, List.length_cons, List.length_nil]); omega)))) | refine OpsD.pc rfl (Fits.eq rfl) d3 rfl ?_ | (refine OpsD.pcp rfl (Fits.eq rfl) d3 rfl ?_ ?_; (· (first | trivial | omega | ((try simp only [R64, true_and, and_true, Int.toNat_natCast, List.length_cons, List.length_nil]); omega)))) | refine OpsD.pc rfl (Fits.eq rfl) d4 rfl ?_ | (refine OpsD.pcp rfl (Fits.eq rfl) d4 rfl ?_ ?_; (· (first | trivial | omega | ((try simp only [R64, true_and, and_true, Int.toNat_natCast, List.length_cons, List.length_nil]); omega)))) | refine OpsD.pc rfl (Fits.eq rfl) d5 rfl ?_ | (refine OpsD.pcp rfl (Fits.eq rfl) d5 rfl ?_ ?_; (· (first | trivial | omega | ((try simp only [R64, true_and, and_true, Int.toNat_natCast, List.length_cons, List.length_nil]); omega)))) ) | refine MvQ.stay ?_ | refine Owe.mk ?_ ?_)
        all_goals (refine RetQ.plain (Nat.le_refl _) (by first | exact .inr rfl | exact .inl rfl) rfl (by (simp only [cloL, clo, cloC, cloCs, and_self])) ?_; (repeat' first | exact True.intro | exact VEq.refl _ | exact EEq.same _ | exact CEq.refl _ | exact VEq.int rfl | apply VEq.tru | apply VEq.fls | apply VEq.bool | apply VEq.int | exact VEq.nill rfl | exact VEq.zl rfl | exact VEq.nil | exact VEq.li_1 | exact VEq.li_2 | exact VEq.li_3 | exact VEq.li_4 | exact VEq.lp_1 | exact VEq.lp_2 | exact VEq.lp_3 | exact VEq.lp_4 | exact VEq.lt_1 | exact VEq.lt_2 | exact VEq.lt_3 | apply VEq.ms | apply VEq.sll | apply VEq.aggs | apply EEq.boxs | apply EEq.app1 | apply EEq.app2 | apply EEq.app3 | apply CEq.ms | apply CEq.int | apply CEq.sll | exact CEq.nill rfl | apply And.intro | exact rfl))
    · rw [if_neg h0] at ho
      obtain ⟨d1, d2, d3, d4, d5⟩ := shapes_err hlc (show tgE (opn x z l c) = (lineE x z l).2 by rw [tgE, ho, if_neg h0]) h0
      refine PFD.of (vs := [_]) fn8 rfl (by (simp only [cloL, clo, cloC, cloCs, and_self])) ?_
      (repeat' first | (refine Owe.mk ?_ ?_; (· (first | trivial | omega | ((try simp only [R64, true_and, and_true, Int.toNat_natCast, List.length_cons, List.length_nil]); omega)))) | (refine Fork.same ?_; first | (refine Fork.yes ?_ ?_; (· first | exact rfl | (refine decide_eq_true ?_; omega) | (refine nd_t ?_; omega) | (simp only [decide_true, Bool.and_self, Bool.not_false]))) | (refine Fork.no ?_ ?_; (· first | exact rfl | (refine decide_eq_false ?_; omega) | (refine nd_f ?_; omega) | (simp only [decide_true, Bool.and_self, Bool.not_true]))) | refine Fork.dec (fun h => ?_) (fun h => ?_) | refine Fork.ndec (fun h => ?_) (fun h => ?_) | refine Fork.mk (fun h => ?_) (fun h => ?_)) | (refine OpsL.same ?_; first | refine Ops.pc rfl (Fits.eq rfl) C15 rfl ?_ | (refine Ops.pcp rfl (Fits.eq rfl) C15 rfl ?_ ?_; (· (first | trivial | omega | ((try simp only [R64, true_and, and_true, Int.toNat_natCast, List.length_cons, List.length_nil]); omega)))) | refine Ops.pc rfl (Fits.eq rfl) C28 rfl ?_ | (refine Ops.pcp rfl (Fits.eq rfl) C28 rfl ?_ ?_; (· (first | trivial | omega | ((try simp only [R64, true_and, and_true, Int.toNat_natCast, List.length_cons, List.length_nil]); omega)))) | refine Ops.pc rfl (Fits.eq rfl) C30 rfl ?_ | (refine Ops.pcp rfl (Fits.eq rfl) C30 rfl ?_ ?_; (· (first | trivial | omega | ((try simp only [R64, true_and, and_true, Int.toNat_natCast, List.length_cons, List.length_nil]); omega)))) | refine Ops.pc rfl (Fits.eq rfl) C31 rfl ?_ | (refine Ops.pcp rfl (Fits.eq rfl) C31 rfl ?_ ?_; (· (first | trivial | omega | ((try simp only [R64, true_and, and_true, Int.toNat_natCast, List.length_cons, List.length_nil]); omega)))) | refine Ops.pc rfl (Fits.eq rfl) c1 rfl ?_ | (refine Ops.pcp rfl (Fits.eq rfl) c1 rfl ?_ ?_; (· (first | trivial | omega | ((try simp only [R64, true_and, and_true, Int.toNat_natCast, List.length_cons, List.length_nil]); omega)))) | refine Ops.pc rfl (Fits.eq rfl) d1 rfl ?_ | (refine Ops.pcp rfl (Fits.eq rfl) d1 rfl ?_ ?_; (· (first | trivial | omega | ((try simp only [R64, true_and, and_true, Int.toNat_natCast, List.length_cons, List.length_nil]); omega)))) | refine Ops.pc rfl (Fits.eq rfl) d2 rfl ?_ | (refine Ops.pcp rfl (Fits.eq rfl) d2 rfl ?_ ?_; (· (first | trivial | omega | ((try simp only [R64, true_and, and_true, Int.toNat_natCast, List.length_cons, List.length_nil]); omega)))) | refine Ops.pc rfl (Fits.eq rfl) d3 rfl ?_ | (refine Ops.pcp rfl (Fits.eq rfl) d3 rfl ?_ ?_; (· (first | trivial | omega | ((try simp only [R64, true_and, and_true, Int.toNat_natCast, List.length_cons, List.length_nil]); omega)))) | refine Ops.pc rfl (Fits.eq rfl) d4 rfl ?_ | (refine Ops.pcp rfl (Fits.eq rfl) d4 rfl ?_ ?_; (· (first | trivial | omega | ((try simp only [R64, true_and, and_true, Int.toNat_natCast, List.length_cons, List.length_nil]); omega)))) | refine Ops.pc rfl (Fits.eq rfl) d5 rfl ?_ | (refine Ops.pcp rfl (Fits.eq rfl) d5 rfl ?_ ?_; (· (first | trivial | omega | ((try simp only [R64, true_and, and_true, Int.toNat_natCast, List.length_cons, List.length_nil]); omega)))) ) | (refine OpsDL.same ?_; first | refine OpsD.pc rfl (Fits.eq rfl) C15 rfl ?_ | (refine OpsD.pcp rfl (Fits.eq rfl) C15 rfl ?_ ?_; (· (first | trivial | omega | ((try simp only [R64, true_and, and_true, Int.toNat_natCast, List.length_cons, List.length_nil]); omega)))) | refine OpsD.pc rfl (Fits.eq rfl) C28 rfl ?_ | (refine OpsD.pcp rfl (Fits.eq rfl) C28 rfl ?_ ?_; (· (first | trivial | omega | ((try simp only [R64, true_and, and_true, Int.toNat_natCast, List.length_cons, List.length_nil]); omega)))) | refine OpsD.pc rfl (Fits.eq rfl) C30 rfl ?_ | (refine OpsD.pcp rfl (Fits.eq rfl) C30 rfl ?_ ?_; (· (first | trivial | omega | ((try simp only [R64, true_and, and_true, Int.toNat_natCast, List.length_cons, List.length_nil]); omega)))) | refine OpsD.pc rfl (Fits.eq rfl) C31 rfl ?_ | (refine OpsD.pcp rfl (Fits.eq rfl) C31 rfl ?_ ?_; (· (first | trivial | omega | ((try simp only [R64, true_and, and_true, Int.toNat_natCast, List.length_cons, List.length_nil]); omega)))) | refine OpsD.pc rfl (Fits.eq rfl) c1 rfl ?_ | (refine OpsD.pcp rfl (Fits.eq rfl) c1 rfl ?_ ?_; (· (first | trivial | omega | ((try simp only [R64, true_and, and_true, Int.toNat_natCast, List.length_cons, List.length_nil]); omega)))) | refine OpsD.pc rfl (Fits.eq rfl) d1 rfl ?_ | (refine OpsD.pcp rfl (Fits.eq rfl) d1 rfl ?_ ?_; (· (first | trivial | omega | ((try simp only [R64, true_and, and_true, Int.toNat_natCast, List.length_cons, List.length_nil]); omega)))) | refine OpsD.pc rfl (Fits.eq rfl) d2 rfl ?_ | (refine OpsD.pcp rfl (Fits.eq rfl) d2 rfl ?_ ?_; (· (first | trivial | omega | ((try simp only [R64, true_and, and_true, Int.toNat_natCast, List.length_cons, List.length_nil]); omega)))) | refine OpsD.pc rfl (Fits.eq rfl) d3 rfl ?_ | (refine OpsD.pcp rfl (Fits.eq rfl) d3 rfl ?_ ?_; (· (first | trivial | omega | ((try simp only [R64, true_and, and_true, Int.toNat_natCast, List.length_cons, List.length_nil]); omega)))) | refine OpsD.pc rfl (Fits.eq rfl) d4 rfl ?_ | (refine OpsD.pcp rfl (Fits.eq rfl) d4 rfl ?_ ?_; (· (first | trivial | omega | ((try simp only [R64, true_and, and_true, Int.toNat_natCast, List.length_cons, List.length_nil]); omega)))) | refine OpsD.pc rfl (Fits.eq rfl) d5 rfl ?_ | (refine OpsD.pcp rfl (Fits.eq rfl) d5 rfl ?_ ?_; (· (first | trivial | omega | ((try simp only [R64, true_and, and_true, Int.toNat_natCast, List.length_cons, List.length_nil]); omega)))) ) | refine MvQ.stay ?_ | refine Owe.mk ?_ ?_)
      all_goals (refine RetQ.plain (Nat.le_refl _) (by first | exact .inr rfl | exact .inl rfl) rfl (by (simp only [cloL, clo, cloC, cloCs, and_self])) ?_; (repeat' first | exact True.intro | exact VEq.refl _ | exact EEq.same _ | exact CEq.refl _ | exact VEq.int rfl | apply VEq.tru | apply VEq.fls | apply VEq.bool | apply VEq.int | exact VEq.nill rfl | exact VEq.zl rfl | exact VEq.nil | exact VEq.li_1 | exact VEq.li_2 | exact VEq.li_3 | exact VEq.li_4 | exact VEq.lp_1 | exact VEq.lp_2 | exact VEq.lp_3 | exact VEq.lp_4 | exact VEq.lt_1 | exact VEq.lt_2 | exact VEq.lt_3 | apply VEq.ms | apply VEq.sll | apply VEq.aggs | apply EEq.boxs | apply EEq.app1 | apply EEq.app2 | apply EEq.app3 | apply CEq.ms | apply CEq.int | apply CEq.sll | exact CEq.nill rfl | apply And.intro | exact rfl))
  · refine PFD.of (vs := [_]) fn8 rfl (by (simp only [cloL, clo, cloC, cloCs, and_self])) ?_
    (repeat' first | (refine Owe.mk ?_ ?_; (· (first | trivial | omega | ((try simp only [R64, true_and, and_true, Int.toNat_natCast, List.length_cons, List.length_nil]); omega)))) | (refine Fork.same ?_; first | (refine Fork.yes ?_ ?_; (· first | exact rfl | (refine decide_eq_true ?_; omega) | (refine nd_t ?_; omega) | (simp only [decide_true, Bool.and_self, Bool.not_false]))) | (refine Fork.no ?_ ?_; (· first | exact rfl | (refine decide_eq_false ?_; omega) | (refine nd_f ?_; omega) | (simp only [decide_true, Bool.and_self, Bool.not_true]))) | refine Fork.dec (fun h => ?_) (fun h => ?_) | refine Fork.ndec (fun h => ?_) (fun h => ?_) | refine Fork.mk (fun h => ?_) (fun h => ?_)) | (refine OpsL.same ?_; first | refine Ops.pc rfl (Fits.eq rfl) C15 rfl ?_ | (refine Ops.pcp rfl (Fits.eq rfl) C15 rfl ?_ ?_; (· (first | trivial | omega | ((try simp only [R64, true_and, and_true, Int.toNat_natCast, List.length_cons, List.length_nil]); omega)))) | refine Ops.pc rfl (Fits.eq rfl) C28 rfl ?_ | (refine Ops.pcp rfl (Fits.eq rfl) C28 rfl ?_ ?_; (· (first | trivial | omega | ((try simp only [R64, true_and, and_true, Int.toNat_natCast, List.length_cons, List.length_nil]); omega)))) ) | (refine OpsDL.same ?_; first | refine OpsD.pc rfl (Fits.eq rfl) C15 rfl ?_ | (refine OpsD.pcp rfl (Fits.eq rfl) C15 rfl ?_ ?_; (· (first | trivial | omega | ((try simp only [R64, true_and, and_true, Int.toNat_natCast, List.length_cons, List.length_nil]); omega)))) | refine OpsD.pc rfl (Fits.eq rfl) C28 rfl ?_ | (refine OpsD.pcp rfl (Fits.eq rfl) C28 rfl ?_ ?_; (· (first | trivial | omega | ((try simp only [R64, true_and, and_true, Int.toNat_natCast, List.length_cons, List.length_nil]); omega)))) ) | refine MvQ.stay ?_ | refine Owe.mk ?_ ?_)
    all_goals (refine RetQ.plain (Nat.le_refl _) (by first | exact .inr rfl | exact .inl rfl) rfl (by (simp only [cloL, clo, cloC, cloCs, and_self])) ?_; (repeat' first | exact True.intro | exact VEq.refl _ | exact EEq.same _ | exact CEq.refl _ | exact VEq.int rfl | apply VEq.tru | apply VEq.fls | apply VEq.bool | apply VEq.int | exact VEq.nill rfl | exact VEq.zl rfl | exact VEq.nil | exact VEq.li_1 | exact VEq.li_2 | exact VEq.li_3 | exact VEq.li_4 | exact VEq.lp_1 | exact VEq.lp_2 | exact VEq.lp_3 | exact VEq.lp_4 | exact VEq.lt_1 | exact VEq.lt_2 | exact VEq.lt_3 | apply VEq.ms | apply VEq.sll | apply VEq.aggs | apply EEq.boxs | apply EEq.app1 | apply EEq.app2 | apply EEq.app3 | apply CEq.ms | apply CEq.int | apply CEq.sll | exact CEq.nill rfl | apply And.intro | exact rfl))
end Go.Pw

namespace Go.Proofs.Ytkoohllimmkmoaa
open Go.ChangeShapes Go.WideShapes Go.ChangeAt Go.RowKit Go.Pw
theorem Try.own : ownKnob Try.prog.godebug = none := by kernel_rfl
theorem Try.laidOut : laidOutB Try.prog = true := by kernel_rfl
theorem shapes : shAll Try.prog [49, 36] = some [(true, [.int .i64, .int .i64, .sl [.int .i64, .int .i64, .int .i64]]), (false, [.sl [.int .i64]])] := by kernel_rfl
theorem law (args : List V) (h : ArgOk [(true, [.int .i64, .int .i64, .sl [.int .i64, .int .i64, .int .i64]]), (false, [.sl [.int .i64]])] args) : PFD Try.prog 8 args (vbl true) := by
  match args, h with
  | [v0, v1], ⟨h0, h1, _⟩ =>
    obtain ⟨x0, z0, l0, r0, q0⟩ := arg_line h0
    obtain ⟨l1, r1, q1⟩ := arg_ints h1
    exact PFD.ri C8 (.cons r0 (.cons r1 .nil))
set_option maxRecDepth 100000 in
theorem lifted (os : Os) (started : os.Started) (H : Type) (enc : TypeId × Value → H) :
    ReturnsInHanded {} Try.checked os 8 .any (Rows.cableShapesSpec.pre6 enc Try.prog Try.f8 Rows.cableShapesRow.domain false) (Rows.cableShapesSpec.post enc Try.prog Try.f8 false true false false) := by
  refine returnsInHanded_of_change (C := Try.checked) Try.own started (by kernel_rfl) Try.func8
    (ChangeSpec.witness6 (enc := enc) (C := Try.checked) false ⟨#[], #[.agg #[.int .i64 0, .int .i64 0, .slice none 0 0], .slice none 0 0], []⟩ 8 (by kernel_rfl) (by kernel_rfl) (by kernel_rfl) (by kernel_rfl)) ?_
  intro W base args ds gs before hval0 hW hcnd _
  exact law_calls (P := Try.prog) (F := Try.f8) (tb := 4) Try.laidOut (by rw [Try.params8]; exact shapes) rfl (fun ds hl => by
    rw [Try.params8] at hl
    match ds, hl with
    | [d0, d1], _ => rfl) (by kernel_rfl) Try.underlying4 law W base args ds gs before hval0 hW
theorem row_holds : Rows.CableShapesSaid :=
  OpenClaim.holds_of_wide 8 Try.f8 rfl rfl rfl rfl rfl rfl rfl ⟨rfl, rfl, rfl, rfl, rfl⟩ rfl rfl rfl rfl rfl (by kernel_rfl) Try.func8 (by kernel_rfl)
    (of_decide_eq_true (by kernel_rfl)) (by unfold Func.isWrapper; rw [if_neg (by decide +kernel)]; exact ⟨rfl, rfl⟩)
    (fun os started H enc _ => lifted os started H enc)
end Go.Proofs.Ytkoohllimmkmoaa
