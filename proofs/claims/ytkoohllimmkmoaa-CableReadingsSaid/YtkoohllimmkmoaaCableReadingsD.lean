/- Proved here at the end: the row named in the last theorem, on no condition. -/
import Derived.Test.YtkoohllimmkmoaaCableReadingsC
import Derived.Test.YtkoohllimmkmoaaRows
set_option linter.unusedSimpArgs false
set_option linter.unusedVariables false
namespace Go.Pw
set_option maxRecDepth 2000
open Go Go.Proofs A1 A2 A3 A4
abbrev plF (L : Ln) (i : Nat) : Rg := (L.pl (i + 1), L.ph (i + 1))
theorem C72 {x z : Int} {l : List Lk} {b : List Rg} : (l.length ≤ 1000000 ∧ b.length ≤ 1000000) → PFD Try.prog 72 [.agg [int x, int z, trs l], .c (prs b)] (vi .i64 (boxE l.length b).2) := fun hl => by
  have c1 := C52 (x := x) (z := z) hl
  refine pi1 fn72 ?_
  (repeat' first | (refine Owe.same ?_; first | refine Owe.o ?_ | refine Owe.mk ?_ ?_) | (refine Fork.same ?_; (first | refine fkD ?_ ?_ | refine fkN ?_ ?_ | refine fkM ?_ ?_) <;> intro h) | ((first | refine OpsL.same ?_ | refine OpsDL.same ?_); first | refine pK c1 rfl rfl ?_) | refine MvQ.stay ?_)
  (refine rqK rfl ?_; (repeat' first | exact rfl | (refine qS ?_; constructor)))
abbrev endF (g : Bool) (b : List Rg) (i : Nat) : Int := if g then (b.getD i (0, 0)).2 else (b.getD i (0, 0)).1
theorem C128 {b : List Rg} {g : Bool} : b.length ≤ 1000000 → PFD Try.prog 128 [.c (prs b), vbl g] (.c (ints (accL (endF g b) b.length))) := fun hl => by
  refine pi1 fn128 ?_
  (repeat' first | (refine Owe.same ?_; first | refine Owe.o ?_ | refine Owe.mk ?_ ?_) | (refine Fork.same ?_; (first | refine fkD ?_ ?_ | refine fkN ?_ ?_ | refine fkM ?_ ?_) <;> intro h) | refine MvQ.stay ?_)
  refine Sat.nilS 5 3 1 (fun i => r1 (([] : List Int).getD i 0)) rfl ?_
  refine Sat.lp (fun k : Nat => ⟨[(6, vi .i64 k), (0, .c (prs b)), (1, vbl g), (5, .c (.ms 0 (accL (endF g b) k).length))], [(0, rowv 3 1 r1 0 (accL (endF g b) k))], 1⟩)
    (fun k => k ≤ b.length) (fun k => b.length - k) 0 [0] (Nat.zero_le _) ?_ ?_
  · (refine qis ?_ ?_ <;> (repeat' first | exact rfl | (refine qS ?_; constructor)))
  · intro k hk
    refine Fork.dec (fun hlt => ?_) (fun hlt => ?_)
    · have hlt : k < b.length := by omega
      have hn := accL_len (endF g b) k
      have hs := accL_succ (endF g b) k
      (repeat' first | (refine Owe.same ?_; first | refine Owe.o ?_ | refine Owe.mk ?_ ?_) | (refine Fork.same ?_; (first | refine fkD ?_ ?_ | refine fkN ?_ ?_ | refine fkM ?_ ?_) <;> intro h) | refine MvQ.stay ?_)
      · have hs : accL (endF g b) (k + 1) = accL (endF g b) k ++ [(b.getD k (0, 0)).2] := by rw [hs, endF, if_pos h]
        refine again (k + 1) [1] hlt (by omega) ?_
        (refine qis ?_ ?_ <;> (repeat' first | exact rfl | (refine qS ?_; constructor)))
        · rw [hs]; simp
        · exact hs
      · have hs : accL (endF g b) (k + 1) = accL (endF g b) k ++ [(b.getD k (0, 0)).1] := by rw [hs, endF, if_neg (by rw [h]; decide)]
        refine again (k + 1) [1] hlt (by omega) ?_
        (refine qis ?_ ?_ <;> (repeat' first | exact rfl | (refine qS ?_; constructor)))
        · rw [hs]; simp
        · exact hs
    · (repeat' first | (refine Owe.same ?_; first | refine Owe.o ?_ | refine Owe.mk ?_ ?_) | (refine Fork.same ?_; (first | refine fkD ?_ ?_ | refine fkN ?_ ?_ | refine fkM ?_ ?_) <;> intro h) | refine MvQ.stay ?_)
      have : k = b.length := by omega
      subst this
      refine rqF 0 _ rfl rfl rfl ?_; (repeat' first | exact rfl | (refine qS ?_; constructor))
theorem gD_out {α : Type} {l : List α} {d : α} {k : Nat} (h : l.length ≤ k) : l.getD k d = d := by
  rw [List.getD_eq_getElem?_getD, List.getElem?_eq_none h]; rfl
/-- A box's smallest, or its greatest, currents alone. -/
abbrev enL (g : Bool) (b : List Rg) : List Int := accL (endF g b) b.length
theorem enL_get {g : Bool} {b : List Rg} (k : Nat) : (enL g b).getD k 0 = endF g b k := by
  by_cases h : k < b.length
  · exact accL_get _ h
  · have : (enL g b).length ≤ k := by rw [accL_len]; omega
    rw [gD_out this, endF, gD_out (by omega : b.length ≤ k)]
    cases g <;> rfl
theorem en_rg {g : Bool} {b : List Rg} (k : Nat) : ((enL g b).map dup).getD k (0, 0) = (endF g b k, endF g b k) := by
  by_cases h : k < b.length
  · rw [dup_get (by rw [accL_len]; exact h), enL_get]
  · have : ((enL g b).map dup).length ≤ k := by rw [List.length_map, accL_len]; omega
    rw [gD_out this, endF, gD_out (by omega : b.length ≤ k)]
    cases g <;> rfl
theorem en_pl {x z : Int} {l : List Lk} {b : List Rg} : ∀ k : Nat, (opL x z l (enL false b)).pl k = (Ln.mk x z l b).pl k
  | 0 => rfl
  | k + 1 => by
    show (opL x z l (enL false b)).pl k + _ * (((enL false b).map dup).getD k (0, 0)).1 = (Ln.mk x z l b).pl k + _ * (b.getD k (0, 0)).1
    rw [en_pl k, en_rg k]; rfl
theorem en_pl2 {x z : Int} {l : List Lk} {b : List Rg} : ∀ k : Nat, (opL x z l (enL true b)).pl k = (Ln.mk x z l b).ph k
  | 0 => rfl
  | k + 1 => by
    show (opL x z l (enL true b)).pl k + _ * (((enL true b).map dup).getD k (0, 0)).1 = (Ln.mk x z l b).ph k + _ * (b.getD k (0, 0)).2
    rw [en_pl2 k, en_rg k]; rfl
theorem en_ok {g : Bool} {x z : Int} {l : List Lk} {b : List Rg} (h : (Ln.mk x z l b).Ok) : (opL x z l (enL g b)).Ok := by
  refine ⟨h.k, ?_, ?_⟩
  · show ((enL g b).map dup).length = l.length
    rw [List.length_map, accL_len]; exact h.b
  · intro r hr
    obtain ⟨n, hn, rfl⟩ := List.mem_map.1 hr
    obtain ⟨i, hi, rfl⟩ := List.mem_map.1 hn
    have h1 := h.c _ (getD_mem (0, 0) (List.mem_range.1 hi))
    obtain ⟨h1, h2, h3⟩ := h1
    have e : (b.getD i (0, 0)).1 = (Ln.mk x z l b).lo i := rfl
    simp only [dup, endF]
    cases g
    · exact ⟨h1, h1, Int.le_refl _⟩
    · exact ⟨h2, h2, Int.le_refl _⟩
theorem C74 {x z : Int} {l : List Lk} {b : List Rg} : (Ln.mk x z l b).Ok → PFD Try.prog 74 [.agg [int x, int z, trs l], .c (prs b)] (.c (prs (accL (plF ⟨x, z, l, b⟩) l.length))) := fun hL => by
  have hn : 0 < l.length ∧ l.length ≤ 10 := hL.k.n
  have hbl : b.length = l.length := hL.b
  have c1 := C128 (b := b) (g := false) (by omega)
  have c2 := C128 (b := b) (g := true) (by omega)
  have c3 := C40 (en_ok (g := false) hL)
  have c4 := C40 (en_ok (g := true) hL)
  have g1 : ∀ k, k < l.length → ((accL (tnF (opL x z l (enL false b))) l.length).getD k (0, 0)).1 = (Ln.mk x z l b).pl (k + 1) := fun k hk => by rw [accL_get _ hk]; exact en_pl (k + 1)
  have g2 : ∀ k, k < l.length → ((accL (tnF (opL x z l (enL true b))) l.length).getD k (0, 0)).1 = (Ln.mk x z l b).ph (k + 1) := fun k hk => by rw [accL_get _ hk]; exact en_pl2 (k + 1)
  have l1 := accL_len (tnF (opL x z l (enL false b))) l.length
  have l2 := accL_len (tnF (opL x z l (enL true b))) l.length
  generalize accL (tnF (opL x z l (enL false b))) l.length = S at *
  generalize accL (tnF (opL x z l (enL true b))) l.length = T at *
  generalize Ln.mk x z l b = L at *
  refine pi1 fn74 ?_
  (repeat' first | (refine Owe.same ?_; first | refine Owe.o ?_ | refine Owe.mk ?_ ?_) | (refine Fork.same ?_; (first | refine fkD ?_ ?_ | refine fkN ?_ ?_ | refine fkM ?_ ?_) <;> intro h) | ((first | refine OpsL.same ?_ | refine OpsDL.same ?_); first | refine oK c1 rfl rfl rfl ?_ | refine oK c2 rfl rfl rfl ?_ | refine oK c3 rfl rfl rfl ?_ | refine oK c4 rfl rfl rfl ?_) | refine MvQ.stay ?_)
  refine Sat.nilS 7 85 2 (fun i => r2 (([] : List Rg).getD i (0, 0))) rfl ?_
  refine Sat.lp (fun k : Nat => ⟨[(8, vi .i64 k), (5, .c (prs S)), (6, .c (prs T)), (7, .c (.ms 1 (accL (plF L) k).length))], [(1, rowv 85 2 r2 (0, 0) (accL (plF L) k)), (0, .box [int x, int z, trs l])], 2⟩)
    (fun k => k ≤ l.length) (fun k => l.length - k) 0 [0, 7] (Nat.zero_le _) ?_ ?_
  · (refine qis ?_ ?_ <;> (repeat' first | exact rfl | (refine qS ?_; constructor)))
  · intro k hk
    refine Fork.dec (fun hlt => ?_) (fun hlt => ?_)
    · have hlt : k < l.length := by omega
      have hm := accL_len (plF L) k
      have hs := accL_succ (plF L) k
      have h1 := g1 k hlt
      have h2 := g2 k hlt
      (repeat' first | (refine Owe.same ?_; first | refine Owe.o ?_ | refine Owe.mk ?_ ?_) | (refine Fork.same ?_; (first | refine fkD ?_ ?_ | refine fkN ?_ ?_ | refine fkM ?_ ?_) <;> intro h) | refine MvQ.stay ?_)
      have hs : accL (plF L) (k + 1) = accL (plF L) k ++ [((S.getD k (0, 0)).1, (T.getD k (0, 0)).1)] := by rw [hs, h1, h2]
      refine again (k + 1) [0, 15] hlt (by omega) ?_
      (refine qis ?_ ?_ <;> (repeat' first | exact rfl | (refine qS ?_; constructor)))
      · rw [hs]; simp
      · exact hs
    · (repeat' first | (refine Owe.same ?_; first | refine Owe.o ?_ | refine Owe.mk ?_ ?_) | (refine Fork.same ?_; (first | refine fkD ?_ ?_ | refine fkN ?_ ?_ | refine fkM ?_ ?_) <;> intro h) | refine MvQ.stay ?_)
      have : k = l.length := by omega
      subst this
      refine rqF 0 _ rfl rfl rfl ?_; (repeat' first | exact rfl | (refine qS ?_; constructor))
theorem Ln.Ok.le {L : Ln} (h : L.Ok) : ∀ k : Nat, k ≤ L.l.length → L.pl k ≤ L.ph k
  | 0, _ => Int.le_refl _
  | k + 1, hk => by
    have := h.le k (by omega)
    have h1 := (h.lk (k := k) (by omega)).2.2
    have h2 := (h.rg (k := k) (by omega)).2.2
    have := Int.mul_le_mul_of_nonneg_left h2 h1.1
    show L.pl k + L.d k * L.lo k ≤ L.ph k + L.d k * L.hi k
    omega
end Go.Pw

set_option linter.unusedSimpArgs false
set_option linter.unusedVariables false
namespace Go.Pw
set_option maxRecDepth 2000
open Go Go.Proofs A1 A2 A3 A4
/-- By how much two ranges are apart. -/
abbrev dsI (p q : Rg) : Int := max (p.1 - q.2) (q.1 - p.2)
theorem dsI_comm (p q : Rg) : dsI p q = dsI q p := by simp only [dsI]; omega
abbrev rgB (p : Rg) : Prop := (-100000 ≤ p.1 ∧ p.1 ≤ 100000) ∧ -100000 ≤ p.2 ∧ p.2 ≤ 100000
theorem C151 {p q : Rg} : (rgB p ∧ rgB q) → PFD Try.prog 151 [.agg [int p.1, int p.2], .agg [int q.1, int q.2]] (vi .i64 (max 0 (dsI p q))) := fun h => by
  refine pi1 fn151 ?_
  (repeat' first | (refine Owe.same ?_; first | refine Owe.o ?_ | refine Owe.mk ?_ ?_) | (refine Fork.same ?_; (first | refine fkD ?_ ?_ | refine fkN ?_ ?_ | refine fkM ?_ ?_) <;> intro h) | refine MvQ.stay ?_)
  (refine rqK rfl ?_; (repeat' first | exact rfl | (refine qS ?_; constructor)))
  simp only [dsI]; omega
theorem C152 {p q : Rg} : (rgB p ∧ rgB q) → PFD Try.prog 152 [.agg [int p.1, int p.2], .agg [int q.1, int q.2]] (vi .i64 (dsI p q)) := fun h => by
  refine pi1 fn152 ?_
  (repeat' first | (refine Owe.same ?_; first | refine Owe.o ?_ | refine Owe.mk ?_ ?_) | (refine Fork.same ?_; (first | refine fkD ?_ ?_ | refine fkN ?_ ?_ | refine fkM ?_ ?_) <;> intro h) | refine MvQ.stay ?_)
  (refine rqK rfl ?_; (repeat' first | exact rfl | (refine qS ?_; constructor)))
/-- The error of a reading, of readings. -/
abbrev rdE (n : Nat) (o : Lk) : Int := fstE [unl (0 ≤ o.1 ∧ o.1 ≤ (n : Int) - 1) 6, unl ((-20000 ≤ o.2.1 ∧ o.2.1 ≤ 20000) ∧ -20000 ≤ o.2.2 ∧ o.2.2 ≤ 20000) 2, unl (o.2.1 ≤ o.2.2) 9]
def rdsE (n : Nat) (r : List Lk) : Int := if r.length ≤ 12 then (eachE (rdE n) 0 r).2 else 8
theorem rdE_eq (n : Nat) (o : Lk) : rdE n o = if 0 ≤ o.1 ∧ o.1 ≤ (n : Int) - 1 then (if (-20000 ≤ o.2.1 ∧ o.2.1 ≤ 20000) ∧ -20000 ≤ o.2.2 ∧ o.2.2 ≤ 20000 then (if o.2.1 ≤ o.2.2 then 0 else 9) else 2) else 6 := by
  simp only [rdE, fstE, unl_eq]
  split
  · rw [if_pos rfl]; split
    · rw [if_pos rfl]; split <;> simp
    · simp
  · simp
abbrev rdOk (n : Nat) (o : Lk) : Prop := (0 ≤ o.1 ∧ o.1 ≤ (n : Int) - 1) ∧ ((-20000 ≤ o.2.1 ∧ o.2.1 ≤ 20000) ∧ -20000 ≤ o.2.2 ∧ o.2.2 ≤ 20000) ∧ o.2.1 ≤ o.2.2
theorem rdE_ok {n : Nat} {o : Lk} : rdE n o = 0 ↔ rdOk n o := by
  rw [rdE_eq]
  constructor
  · intro h
    split at h
    · split at h
      · split at h
        · exact ⟨by assumption, by assumption, by assumption⟩
        · cases h
      · cases h
    · cases h
  · rintro ⟨h1, h2, h3⟩
    rw [if_pos h1, if_pos h2, if_pos h3]
theorem rdsE_ok {n : Nat} {r : List Lk} : rdsE n r = 0 ↔ r.length ≤ 12 ∧ ∀ i, i < r.length → rdOk n (r.getD i (0, 0, 0)) := by
  unfold rdsE
  split
  · rename_i h
    rw [eachE_ok]
    constructor
    · intro h1
      exact ⟨h, fun i hi => rdE_ok.1 (h1 _ (getD_mem _ hi))⟩
    · rintro ⟨_, h1⟩ o ho
      obtain ⟨i, hi, rfl⟩ := List.getElem_of_mem ho
      have := h1 i hi
      rw [List.getD_eq_getElem?_getD, List.getElem?_eq_getElem hi] at this
      exact rdE_ok.2 this
  · rename_i h
    exact ⟨fun h1 => (by cases h1), fun h1 => absurd h1.1 h⟩
theorem C81 {x z : Int} {l : List Lk} {r : List Lk} : (l.length ≤ 1000000 ∧ r.length ≤ 1000000) → PFD Try.prog 81 [.agg [int x, int z, trs l], .c (trs r)] (vi .i64 (rdsE l.length r)) := fun hl => by
  by_cases h12 : r.length ≤ 12
  · rw [rdsE, if_pos h12]
    refine pi1 fn81 ?_
    (repeat' first | (refine Owe.same ?_; first | refine Owe.o ?_ | refine Owe.mk ?_ ?_) | (refine Fork.same ?_; (first | refine fkD ?_ ?_ | refine fkN ?_ ?_ | refine fkM ?_ ?_) <;> intro h) | ((first | refine OpsL.same ?_ | refine OpsDL.same ?_); first | refine oK C16 rfl rfl rfl ?_) | refine MvQ.stay ?_)
    · exfalso; omega
    refine Sat.lp (fun k : Nat => ⟨[(6, vi .i64 k), (1, .c (trs r)), (5, vi .i64 20000), (2, .c (.bp 0 0))], [(0, .box [int x, int z, trs l])], 1⟩)
      (fun k => k ≤ r.length ∧ eachE (rdE l.length) 0 r = eachE (rdE l.length) k (r.drop k)) (fun k => r.length - k) 0 [0] ⟨Nat.zero_le _, rfl⟩ ?_ ?_
    · (refine qis ?_ ?_ <;> (repeat' first | exact rfl | (refine qS ?_; constructor)))
    · intro k hk
      refine Fork.dec (fun hlt => ?_) (fun hlt => ?_)
      · have hlt : k < r.length := by omega
        have e2 := eachE_drop (rdE l.length) (0, 0, 0) r k hlt
        rw [← hk.2] at e2
        have cA := C16 (n := (r.getD k (0, 0, 0)).1) (lo := 0) (hi := (l.length : Int) - 1)
        have cB := C16 (n := (r.getD k (0, 0, 0)).2.1) (lo := -20000) (hi := 20000)
        have cC := C16 (n := (r.getD k (0, 0, 0)).2.2) (lo := -20000) (hi := 20000)
        have er := rdE_eq l.length (r.getD k (0, 0, 0))
        by_cases hA : 0 ≤ (r.getD k (0, 0, 0)).1 ∧ (r.getD k (0, 0, 0)).1 ≤ (l.length : Int) - 1
        · rw [decide_eq_true hA] at cA
          rw [if_pos hA] at er
          by_cases hB : -20000 ≤ (r.getD k (0, 0, 0)).2.1 ∧ (r.getD k (0, 0, 0)).2.1 ≤ 20000
          · rw [decide_eq_true hB] at cB
            by_cases hC : -20000 ≤ (r.getD k (0, 0, 0)).2.2 ∧ (r.getD k (0, 0, 0)).2.2 ≤ 20000
            · rw [decide_eq_true hC] at cC
              rw [if_pos ⟨hB, hC⟩] at er
              (repeat' first | (refine Owe.same ?_; first | refine Owe.o ?_ | refine Owe.mk ?_ ?_) | (refine Fork.same ?_; (first | refine fkY ?_ | refine fkF ?_ | ((first | refine fkD ?_ ?_ | refine fkN ?_ ?_ | refine fkM ?_ ?_) <;> intro h))) | ((first | refine OpsL.same ?_ | refine OpsDL.same ?_); first | refine oK cA rfl rfl rfl ?_ | refine oK cB rfl rfl rfl ?_ | refine oK cC rfl rfl rfl ?_) | refine MvQ.stay ?_)
              · have h : (r.getD k (0, 0, 0)).2.2 < (r.getD k (0, 0, 0)).2.1 := h
                rw [if_neg (by omega)] at er
                rw [er, if_neg (by decide)] at e2
                (refine rqK rfl ?_; (repeat' first | exact rfl | (refine qS ?_; constructor)))
                rw [e2]
              · have h : ¬ (r.getD k (0, 0, 0)).2.2 < (r.getD k (0, 0, 0)).2.1 := h
                rw [if_pos (by omega)] at er
                rw [if_pos er] at e2
                refine again (k + 1) [0] ⟨hlt, e2⟩ (by omega) ?_
                (refine qis ?_ ?_ <;> (repeat' first | exact rfl | (refine qS ?_; constructor)))
            · rw [decide_eq_false hC] at cC
              rw [if_neg (fun h => hC h.2)] at er
              rw [er, if_neg (by decide)] at e2
              (repeat' first | (refine Owe.same ?_; first | refine Owe.o ?_ | refine Owe.mk ?_ ?_) | (refine Fork.same ?_; (first | refine fkY ?_ | refine fkF ?_ | ((first | refine fkD ?_ ?_ | refine fkN ?_ ?_ | refine fkM ?_ ?_) <;> intro h))) | ((first | refine OpsL.same ?_ | refine OpsDL.same ?_); first | refine oK cA rfl rfl rfl ?_ | refine oK cB rfl rfl rfl ?_ | refine oK cC rfl rfl rfl ?_) | refine MvQ.stay ?_)
              (refine rqK rfl ?_; (repeat' first | exact rfl | (refine qS ?_; constructor)))
              rw [e2]
          · rw [decide_eq_false hB] at cB
            rw [if_neg (fun h => hB h.1)] at er
            rw [er, if_neg (by decide)] at e2
            (repeat' first | (refine Owe.same ?_; first | refine Owe.o ?_ | refine Owe.mk ?_ ?_) | (refine Fork.same ?_; (first | refine fkY ?_ | refine fkF ?_ | ((first | refine fkD ?_ ?_ | refine fkN ?_ ?_ | refine fkM ?_ ?_) <;> intro h))) | ((first | refine OpsL.same ?_ | refine OpsDL.same ?_); first | refine oK cA rfl rfl rfl ?_ | refine oK cB rfl rfl rfl ?_ | refine oK cC rfl rfl rfl ?_) | refine MvQ.stay ?_)
            (refine rqK rfl ?_; (repeat' first | exact rfl | (refine qS ?_; constructor)))
            rw [e2]
        · rw [decide_eq_false hA] at cA
          rw [if_neg hA] at er
          rw [er, if_neg (by decide)] at e2
          (repeat' first | (refine Owe.same ?_; first | refine Owe.o ?_ | refine Owe.mk ?_ ?_) | (refine Fork.same ?_; (first | refine fkY ?_ | refine fkF ?_ | ((first | refine fkD ?_ ?_ | refine fkN ?_ ?_ | refine fkM ?_ ?_) <;> intro h))) | ((first | refine OpsL.same ?_ | refine OpsDL.same ?_); first | refine oK cA rfl rfl rfl ?_) | refine MvQ.stay ?_)
          (refine rqK rfl ?_; (repeat' first | exact rfl | (refine qS ?_; constructor)))
          rw [e2]
      · (repeat' first | (refine Owe.same ?_; first | refine Owe.o ?_ | refine Owe.mk ?_ ?_) | (refine Fork.same ?_; (first | refine fkD ?_ ?_ | refine fkN ?_ ?_ | refine fkM ?_ ?_) <;> intro h) | refine MvQ.stay ?_)
        rw [hk.2, List.drop_of_length_le (by omega)]
        (refine rqK rfl ?_; (repeat' first | exact rfl | (refine qS ?_; constructor)))
  · rw [rdsE, if_neg h12]
    refine pi1 fn81 ?_
    (repeat' first | (refine Owe.same ?_; first | refine Owe.o ?_ | refine Owe.mk ?_ ?_) | (refine Fork.same ?_; (first | refine fkD ?_ ?_ | refine fkN ?_ ?_ | refine fkM ?_ ?_) <;> intro h) | ((first | refine OpsL.same ?_ | refine OpsDL.same ?_); first | refine oK C16 rfl rfl rfl ?_) | refine MvQ.stay ?_)
    all_goals first | (exfalso; omega) | (refine rqK rfl ?_; (repeat' first | exact rfl | (refine qS ?_; constructor)))
abbrev rdI (L : Ln) (o : Lk) : Rg := plF L o.1.toNat
abbrev ap1 (L : Ln) (o : Lk) : Int := dsI o.2 (rdI L o)
/-- A reading, carried on to a later link. -/
abbrev wlk (L : Ln) (a b : Lk) : Rg := (a.2.1 + (L.pl (b.1.toNat + 1) - L.pl (a.1.toNat + 1)), a.2.2 + (L.ph (b.1.toNat + 1) - L.ph (a.1.toNat + 1)))
abbrev ap2' (L : Ln) (a b : Lk) : Int := dsI b.2 (wlk L a b)
abbrev ap2 (L : Ln) (a b : Lk) : Int := if b.1 < a.1 then ap2' L b a else ap2' L a b
theorem C132 {L : Ln} {o : Lk} : (L.Ok ∧ rdOk L.l.length o) → PFD Try.prog 132 [.agg L.v, .agg [int o.1, int o.2.1, int o.2.2]] (vi .i64 (max 0 (ap1 L o))) := fun ⟨hL, ho⟩ => by
  have hb := hL.bd (o.1.toNat + 1) (by omega)
  have c1 := C151 (p := o.2) (q := rdI L o) ⟨⟨by omega, by omega⟩, by simp only [rdI, plF]; omega⟩
  simp only [rdI, plF] at c1
  show PFD Try.prog 132 [.agg L.v, .agg [int o.1, int o.2.1, int o.2.2]] (vi .i64 (max 0 (dsI o.2 (L.pl (o.1.toNat + 1), L.ph (o.1.toNat + 1)))))
  generalize max 0 (dsI o.2 (L.pl (o.1.toNat + 1), L.ph (o.1.toNat + 1))) = W at *
  refine pi1 fn132 ?_
  (repeat' first | (refine Owe.same ?_; first | refine Owe.o ?_ | refine Owe.mk ?_ ?_) | (refine Fork.same ?_; (first | refine fkD ?_ ?_ | refine fkN ?_ ?_ | refine fkM ?_ ?_) <;> intro h) | refine MvQ.stay ?_)
  refine Ops.cs rfl rfl (CallS.of fn113 rfl ?_); refine Sat.keep [4, 3, 8] ?_; refine Sat.rf rfl rfl (CallS.of fn141 rfl ?_); (repeat' first | (refine Owe.same ?_; first | refine Owe.o ?_ | refine Owe.mk ?_ ?_) | (refine Fork.same ?_; (first | refine fkD ?_ ?_ | refine fkN ?_ ?_ | refine fkM ?_ ?_) <;> intro h) | refine MvQ.stay ?_)
  refine Sat.lp (fun k : Nat => ⟨[(24, vi .i64 k), (23, vi .i64 L.l.length), (22, .c (trs L.l)), (3, .c (.bp 5 0)), (1, .c (.bp 3 0)), (0, .c (.yd 4))], [(5, .box [int (L.pl k), int (L.ph k), int (L.pz k), int (L.hh k)]), (4, .lp [(4, .c (.bp 2 0)), (3, .c (.bp 1 0)), (8, .c (.fn 141 [3]))] .ready none (RR Try.prog 20 [9, 10] ra132 rb132)), (3, .box L.v), (2, .box [int 0]), (1, .box [int o.1, int o.2.1, int o.2.2])], 6⟩)
    (fun k => k ≤ o.1.toNat) (fun k => L.l.length - k) 0 [5] (Nat.zero_le _) ?_ ?_
  · (refine qis ?_ ?_ <;> (repeat' first | exact rfl | (refine qS ?_; constructor)))
  · intro k hk
    refine Fork.dec (fun hlt => ?_) (fun hlt => ?_)
    · have hlt : k < L.l.length := by omega
      have hrd := hL.round hlt
      by_cases he : (k : Int) = o.1
      · have hk2 : o.1.toNat = k := by omega
        rw [hk2] at c1
        (repeat' first | (refine Owe.same ?_; first | refine Owe.o ?_ | refine Owe.mk ?_ ?_) | (refine Fork.same ?_; (first | refine fkY ?_ | refine fkF ?_ | ((first | refine fkD ?_ ?_ | refine fkN ?_ ?_ | refine fkM ?_ ?_) <;> intro h))) | ((first | refine OpsL.same ?_ | refine OpsDL.same ?_); first | refine oK c1 rfl rfl rfl ?_) | refine MvQ.stay ?_)
        refine Ops.yd rfl rfl rfl rfl rfl ?_
        (repeat' first | (refine Owe.same ?_; first | refine Owe.o ?_ | refine Owe.mk ?_ ?_) | (refine Fork.same ?_; (first | refine fkY ?_ | refine fkF ?_ | ((first | refine fkD ?_ ?_ | refine fkN ?_ ?_ | refine fkM ?_ ?_) <;> intro h))) | ((first | refine OpsL.same ?_ | refine OpsDL.same ?_); first | refine oK c1 rfl rfl rfl ?_) | refine MvQ.stay ?_)
        refine And.intro rfl (Exists.intro _ (And.intro rfl ?_))
        (repeat' first | (refine Owe.same ?_; first | refine Owe.o ?_ | refine Owe.mk ?_ ?_) | (refine Fork.same ?_; (first | refine fkY ?_ | refine fkF ?_ | ((first | refine fkD ?_ ?_ | refine fkN ?_ ?_ | refine fkM ?_ ?_) <;> intro h))) | ((first | refine OpsL.same ?_ | refine OpsDL.same ?_); first | refine oK c1 rfl rfl rfl ?_) | refine MvQ.stay ?_)
        refine Exists.intro _ (Exists.intro _ (Exists.intro _ (And.intro rfl ?_)))
        (repeat' first | (refine Owe.same ?_; first | refine Owe.o ?_ | refine Owe.mk ?_ ?_) | (refine Fork.same ?_; (first | refine fkD ?_ ?_ | refine fkN ?_ ?_ | refine fkM ?_ ?_) <;> intro h) | refine MvQ.stay ?_)
        (refine rqK rfl ?_; (repeat' first | exact rfl | (refine qS ?_; constructor)))
      · (repeat' first | (refine Owe.same ?_; first | refine Owe.o ?_ | refine Owe.mk ?_ ?_) | (refine Fork.same ?_; (first | refine fkD ?_ ?_ | refine fkN ?_ ?_ | refine fkM ?_ ?_) <;> intro h) | refine MvQ.stay ?_)
        refine Ops.yd rfl rfl rfl rfl rfl ?_
        (repeat' first | (refine Owe.same ?_; first | refine Owe.o ?_ | refine Owe.mk ?_ ?_) | (refine Fork.same ?_; (first | refine fkD ?_ ?_ | refine fkN ?_ ?_ | refine fkM ?_ ?_) <;> intro h) | refine MvQ.stay ?_)
        refine And.intro rfl (Exists.intro _ (And.intro rfl ?_))
        (repeat' first | (refine Owe.same ?_; first | refine Owe.o ?_ | refine Owe.mk ?_ ?_) | (refine Fork.same ?_; (first | refine fkY ?_ | refine fkF ?_ | ((first | refine fkD ?_ ?_ | refine fkN ?_ ?_ | refine fkM ?_ ?_) <;> intro h))) | ((first | refine OpsL.same ?_ | refine OpsDL.same ?_); first | refine oK c1 rfl rfl rfl ?_) | refine MvQ.stay ?_)
        refine Exists.intro _ (Exists.intro _ (Exists.intro _ (And.intro rfl ?_)))
        (repeat' first | (refine Owe.same ?_; first | refine Owe.o ?_ | refine Owe.mk ?_ ?_) | (refine Fork.same ?_; (first | refine fkD ?_ ?_ | refine fkN ?_ ?_ | refine fkM ?_ ?_) <;> intro h) | refine MvQ.stay ?_)
        refine again (k + 1) [5] (by omega) (by omega) ?_
        (refine qis ?_ ?_ <;> (repeat' first | exact rfl | (refine qS ?_; constructor)))
    · exfalso; omega
theorem C133 {L : Ln} {a b : Lk} : (L.Ok ∧ rdOk L.l.length a ∧ rdOk L.l.length b) → PFD Try.prog 133 [.agg L.v, .agg [int a.1, int a.2.1, int a.2.2], .agg [int b.1, int b.2.1, int b.2.2]] (vi .i64 (max 0 (ap2 L a b))) := fun ⟨hL, ha, hb⟩ => by
  obtain ⟨a1, al, ah⟩ := a
  obtain ⟨b1, bl, bh⟩ := b
  obtain ⟨ia, rfl⟩ : ∃ n : Nat, a1 = n := ⟨a1.toNat, by have := ha.1; simp only at this; omega⟩
  obtain ⟨ib, rfl⟩ : ∃ n : Nat, b1 = n := ⟨b1.toNat, by have := hb.1; simp only at this; omega⟩
  simp only [rdOk] at ha hb
  have hLn := hL.k.n
  by_cases h : (ib : Int) < ia
  · rw [show ap2 L ((ia : Int), al, ah) ((ib : Int), bl, bh) = dsI (al, ah) (bl + (L.pl (ia + 1) - L.pl (ib + 1)), bh + (L.ph (ia + 1) - L.ph (ib + 1))) from if_pos h]
    have hA := hL.bd (ib + 1) (by omega)
    have hB := hL.bd (ia + 1) (by omega)
    have c1 := C151 (p := (bl + (L.pl (ia + 1) - L.pl (ib + 1)), bh + (L.ph (ia + 1) - L.ph (ib + 1)))) (q := (al, ah)) ⟨⟨by omega, by omega⟩, ⟨by omega, by omega⟩⟩
    rw [dsI_comm] at c1
    generalize max 0 (dsI (al, ah) (bl + (L.pl (ia + 1) - L.pl (ib + 1)), bh + (L.ph (ia + 1) - L.ph (ib + 1)))) = W at *
    change PFD Try.prog 133 [.agg L.v, .agg [int (ia : Int), int al, int ah], .agg [int (ib : Int), int bl, int bh]] _
    refine pi1 fn133 ?_
    (repeat' first | (refine Owe.same ?_; first | refine Owe.o ?_ | refine Owe.mk ?_ ?_) | (refine Fork.same ?_; (first | refine fkY ?_ | refine fkF ?_ | ((first | refine fkD ?_ ?_ | refine fkN ?_ ?_ | refine fkM ?_ ?_) <;> intro h))) | ((first | refine OpsL.same ?_ | refine OpsDL.same ?_); first | refine oK c1 rfl rfl rfl ?_) | refine MvQ.stay ?_)
    refine Sat.lp (fun j : Nat => ⟨[(7, vi .i64 j), (3, .c (.bp 0 0)), (4, .c (.bp 1 0)), (5, .c (.bp 2 0))], [(0, .box L.v), (1, .box [int ib, int (bl + (L.pl j - L.pl (ib + 1))), int (bh + (L.ph j - L.ph (ib + 1)))]), (2, .box [int ia, int al, int ah])], 3⟩)
      (fun j => ib + 1 ≤ j ∧ j ≤ ia + 1) (fun j => ia + 1 - j) (ib + 1) [0, 1, 2] ⟨Nat.le_refl _, by omega⟩ ?_ ?_
    · (refine qis ?_ ?_ <;> (repeat' first | exact rfl | (refine qS ?_; constructor)))
      all_goals omega
    · intro j hj
      refine Fork.dec (fun hlt => ?_) (fun hlt => ?_)
      · have hlt : j ≤ ia := by omega
        have hrd := hL.round (show j < L.l.length by omega)
        have e1 : L.pl (j + 1) = L.pl j + (L.l.getD j (0, 0, 0)).2.2 * (L.b.getD j (0, 0)).1 := rfl
        have e2 : L.ph (j + 1) = L.ph j + (L.l.getD j (0, 0, 0)).2.2 * (L.b.getD j (0, 0)).2 := rfl
        (repeat' first | (refine Owe.same ?_; first | refine Owe.o ?_ | refine Owe.mk ?_ ?_) | (refine Fork.same ?_; (first | refine fkY ?_ | refine fkF ?_ | ((first | refine fkD ?_ ?_ | refine fkN ?_ ?_ | refine fkM ?_ ?_) <;> intro h))) | ((first | refine OpsL.same ?_ | refine OpsDL.same ?_); first | refine oK c1 rfl rfl rfl ?_) | refine MvQ.stay ?_)
        refine again (j + 1) [0, 1, 2] ⟨by omega, by omega⟩ (by omega) ?_
        (refine qis ?_ ?_ <;> (repeat' first | exact rfl | (refine qS ?_; constructor)))
        · have f1 : L.pl (j + 1) = L.pl j + (L.l.getD (j : Int).toNat (0, 0, 0)).2.2 * (L.b.getD (j : Int).toNat (0, 0)).1 := rfl
          omega
        · have f2 : L.ph (j + 1) = L.ph j + (L.l.getD (j : Int).toNat (0, 0, 0)).2.2 * (L.b.getD (j : Int).toNat (0, 0)).2 := rfl
          omega
      · have : j = ia + 1 := by omega
        subst this
        (repeat' first | (refine Owe.same ?_; first | refine Owe.o ?_ | refine Owe.mk ?_ ?_) | (refine Fork.same ?_; (first | refine fkY ?_ | refine fkF ?_ | ((first | refine fkD ?_ ?_ | refine fkN ?_ ?_ | refine fkM ?_ ?_) <;> intro h))) | ((first | refine OpsL.same ?_ | refine OpsDL.same ?_); first | refine oK c1 rfl rfl rfl ?_) | refine MvQ.stay ?_)
        (refine rqK rfl ?_; (repeat' first | exact rfl | (refine qS ?_; constructor)))
  · rw [show ap2 L ((ia : Int), al, ah) ((ib : Int), bl, bh) = dsI (bl, bh) (al + (L.pl (ib + 1) - L.pl (ia + 1)), ah + (L.ph (ib + 1) - L.ph (ia + 1))) from if_neg h]
    have hA := hL.bd (ia + 1) (by omega)
    have hB := hL.bd (ib + 1) (by omega)
    have c1 := C151 (p := (al + (L.pl (ib + 1) - L.pl (ia + 1)), ah + (L.ph (ib + 1) - L.ph (ia + 1)))) (q := (bl, bh)) ⟨⟨by omega, by omega⟩, ⟨by omega, by omega⟩⟩
    rw [dsI_comm] at c1
    generalize max 0 (dsI (bl, bh) (al + (L.pl (ib + 1) - L.pl (ia + 1)), ah + (L.ph (ib + 1) - L.ph (ia + 1)))) = W at *
    change PFD Try.prog 133 [.agg L.v, .agg [int (ia : Int), int al, int ah], .agg [int (ib : Int), int bl, int bh]] _
    refine pi1 fn133 ?_
    (repeat' first | (refine Owe.same ?_; first | refine Owe.o ?_ | refine Owe.mk ?_ ?_) | (refine Fork.same ?_; (first | refine fkY ?_ | refine fkF ?_ | ((first | refine fkD ?_ ?_ | refine fkN ?_ ?_ | refine fkM ?_ ?_) <;> intro h))) | ((first | refine OpsL.same ?_ | refine OpsDL.same ?_); first | refine oK c1 rfl rfl rfl ?_) | refine MvQ.stay ?_)
    refine Sat.lp (fun j : Nat => ⟨[(7, vi .i64 j), (3, .c (.bp 0 0)), (4, .c (.bp 1 0)), (5, .c (.bp 2 0))], [(0, .box L.v), (1, .box [int ia, int (al + (L.pl j - L.pl (ia + 1))), int (ah + (L.ph j - L.ph (ia + 1)))]), (2, .box [int ib, int bl, int bh])], 3⟩)
      (fun j => ia + 1 ≤ j ∧ j ≤ ib + 1) (fun j => ib + 1 - j) (ia + 1) [0, 1, 2] ⟨Nat.le_refl _, by omega⟩ ?_ ?_
    · (refine qis ?_ ?_ <;> (repeat' first | exact rfl | (refine qS ?_; constructor)))
      all_goals omega
    · intro j hj
      refine Fork.dec (fun hlt => ?_) (fun hlt => ?_)
      · have hlt : j ≤ ib := by omega
        have hrd := hL.round (show j < L.l.length by omega)
        have e1 : L.pl (j + 1) = L.pl j + (L.l.getD j (0, 0, 0)).2.2 * (L.b.getD j (0, 0)).1 := rfl
        have e2 : L.ph (j + 1) = L.ph j + (L.l.getD j (0, 0, 0)).2.2 * (L.b.getD j (0, 0)).2 := rfl
        (repeat' first | (refine Owe.same ?_; first | refine Owe.o ?_ | refine Owe.mk ?_ ?_) | (refine Fork.same ?_; (first | refine fkY ?_ | refine fkF ?_ | ((first | refine fkD ?_ ?_ | refine fkN ?_ ?_ | refine fkM ?_ ?_) <;> intro h))) | ((first | refine OpsL.same ?_ | refine OpsDL.same ?_); first | refine oK c1 rfl rfl rfl ?_) | refine MvQ.stay ?_)
        refine again (j + 1) [0, 1, 2] ⟨by omega, by omega⟩ (by omega) ?_
        (refine qis ?_ ?_ <;> (repeat' first | exact rfl | (refine qS ?_; constructor)))
        · have f1 : L.pl (j + 1) = L.pl j + (L.l.getD (j : Int).toNat (0, 0, 0)).2.2 * (L.b.getD (j : Int).toNat (0, 0)).1 := rfl
          omega
        · have f2 : L.ph (j + 1) = L.ph j + (L.l.getD (j : Int).toNat (0, 0, 0)).2.2 * (L.b.getD (j : Int).toNat (0, 0)).2 := rfl
          omega
      · have : j = ib + 1 := by omega
        subst this
        (repeat' first | (refine Owe.same ?_; first | refine Owe.o ?_ | refine Owe.mk ?_ ?_) | (refine Fork.same ?_; (first | refine fkY ?_ | refine fkF ?_ | ((first | refine fkD ?_ ?_ | refine fkN ?_ ?_ | refine fkM ?_ ?_) <;> intro h))) | ((first | refine OpsL.same ?_ | refine OpsDL.same ?_); first | refine oK c1 rfl rfl rfl ?_) | refine MvQ.stay ?_)
        (refine rqK rfl ?_; (repeat' first | exact rfl | (refine qS ?_; constructor)))
/-- The error of a line, a box and readings. -/
abbrev opR (x z : Int) (l : List Lk) (b : List Rg) (r : List Lk) : Int := if (lbE x z l b).2 = 0 then rdsE l.length r else (lbE x z l b).2
theorem C129 {x z : Int} {l : List Lk} {b : List Rg} {r : List Lk} : (l.length ≤ 1000000 ∧ b.length ≤ 1000000 ∧ r.length ≤ 1000000) → PFD Try.prog 129 [.agg [int x, int z, trs l], .c (prs b), .c (trs r)] (.tup [.agg (Ln.mk x z l b).v, vi .i64 (opR x z l b r)]) := fun hl => by
  have c1 := C127 (x := x) (z := z) (l := l) (b := b) (by omega)
  by_cases h0 : (lbE x z l b).2 = 0
  · rw [opR, if_pos h0]
    by_cases h12 : r.length ≤ 12
    · have e0 : fstE [(lbE x z l b).2, unb (decide ((r.length : Int) ≤ 12)) 8] = 0 := by rw [h0, decide_eq_true (by omega)]; rfl
      rw [rdsE, if_pos h12]
      refine pi2 fn129 ?_
      (repeat' first | (refine Owe.same ?_; first | refine Owe.o ?_ | refine Owe.mk ?_ ?_) | (refine Fork.same ?_; (first | refine fkD ?_ ?_ | refine fkN ?_ ?_ | refine fkM ?_ ?_) <;> intro h) | ((first | refine OpsL.same ?_ | refine OpsDL.same ?_); first | refine oK c1 rfl rfl rfl ?_ | refine oK C91 rfl rfl rfl ?_) | refine MvQ.stay ?_)
      (repeat' first | (refine Owe.same ?_; first | refine Owe.o ?_ | refine Owe.mk ?_ ?_) | (refine Fork.same ?_; (first | refine fkD ?_ ?_ | refine fkN ?_ ?_ | refine fkM ?_ ?_) <;> intro h) | ((first | refine OpsL.same ?_ | refine OpsDL.same ?_); first | refine pK C90 rfl rfl ?_) | refine MvQ.stay ?_)
      · exact absurd e0 h
      refine Ops.cs rfl rfl (CallS.of fn149 rfl ?_)
      (repeat' first | (refine Owe.same ?_; first | refine Owe.o ?_ | refine Owe.mk ?_ ?_) | (refine Fork.same ?_; (first | refine fkD ?_ ?_ | refine fkN ?_ ?_ | refine fkM ?_ ?_) <;> intro h) | refine MvQ.stay ?_)
      refine Sat.lp (fun k : Nat => ⟨[(11, vi .i64 k), (10, vi .i64 r.length), (9, .c (trs r)), (1, .c (.fn 150 [0]))], [(2, .box (Ln.mk x z l b).v), (1, .box [int 0, int 0, .d (.v (.slice none 0 0)), .d (.v (.slice none 0 0))]), (0, .box [int x, int z, trs l])], 3⟩)
        (fun k => k ≤ r.length ∧ eachE (rdE l.length) 0 r = eachE (rdE l.length) k (r.drop k)) (fun k => r.length - k) 0 [] ⟨Nat.zero_le _, rfl⟩ ?_ ?_
      · (refine qis ?_ ?_ <;> (repeat' first | exact rfl | (refine qS ?_; constructor)))
      · intro k hk
        refine Fork.dec (fun hlt => ?_) (fun hlt => ?_)
        · have hlt : k < r.length := by omega
          have e2 := eachE_drop (rdE l.length) (0, 0, 0) r k hlt
          rw [← hk.2] at e2
          (repeat' first | (refine Owe.same ?_; first | refine Owe.o ?_ | refine Owe.mk ?_ ?_) | (refine Fork.same ?_; (first | refine fkD ?_ ?_ | refine fkN ?_ ?_ | refine fkM ?_ ?_) <;> intro h) | refine MvQ.stay ?_)
          refine Ops.cs rfl rfl (CallS.of fn150 rfl ?_)
          have cB := C106 (n := (r.getD k (0, 0, 0)).2.1) (m := 20000) (by decide)
          by_cases hB : -20000 ≤ (r.getD k (0, 0, 0)).2.1 ∧ (r.getD k (0, 0, 0)).2.1 ≤ 20000
          · rw [decide_eq_true hB] at cB
            have ev : fstE [unb (decide (0 ≤ (r.getD k (0, 0, 0)).1 ∧ (r.getD k (0, 0, 0)).1 ≤ (l.length : Int) - 1)) 6, unb (decide (-20000 ≤ (r.getD k (0, 0, 0)).2.2 ∧ (r.getD k (0, 0, 0)).2.2 ≤ 20000)) 2, unb (decide ((r.getD k (0, 0, 0)).2.1 ≤ (r.getD k (0, 0, 0)).2.2)) 9] = rdE l.length (r.getD k (0, 0, 0)) := by
              simp only [rdE, unl]
              rw [show decide ((-20000 ≤ (r.getD k (0, 0, 0)).2.1 ∧ (r.getD k (0, 0, 0)).2.1 ≤ 20000) ∧ -20000 ≤ (r.getD k (0, 0, 0)).2.2 ∧ (r.getD k (0, 0, 0)).2.2 ≤ 20000) = (decide (-20000 ≤ (r.getD k (0, 0, 0)).2.2 ∧ (r.getD k (0, 0, 0)).2.2 ≤ 20000)) by rw [Bool.eq_iff_iff]; simp only [decide_eq_true_eq]; omega]
            (repeat' first | (refine Owe.same ?_; first | refine Owe.o ?_ | refine Owe.mk ?_ ?_) | (refine Fork.same ?_; (first | refine fkY ?_ | refine fkF ?_ | ((first | refine fkD ?_ ?_ | refine fkN ?_ ?_ | refine fkM ?_ ?_) <;> intro h))) | ((first | refine OpsL.same ?_ | refine OpsDL.same ?_); first | refine oK C104 rfl rfl rfl ?_ | refine oK cB rfl rfl rfl ?_ | refine oK C106 rfl rfl rfl ?_ | refine oK C91 rfl rfl rfl ?_) | refine MvQ.stay ?_)
            (repeat' first | (refine Owe.same ?_; first | refine Owe.o ?_ | refine Owe.mk ?_ ?_) | (refine Fork.same ?_; (first | refine fkD ?_ ?_ | refine fkN ?_ ?_ | refine fkM ?_ ?_) <;> intro h) | ((first | refine OpsL.same ?_ | refine OpsDL.same ?_); first | refine pK C90 rfl rfl ?_) | refine MvQ.stay ?_)
            · have h : ¬ rdE l.length (r.getD k (0, 0, 0)) = 0 := fun h9 => h (ev.trans h9)
              rw [if_neg h] at e2
              rw [e2]
              (refine rqK rfl ?_; (repeat' first | exact rfl | (refine qS ?_; constructor)))
              exact ev
            · have h : rdE l.length (r.getD k (0, 0, 0)) = 0 := ev.symm.trans h
              rw [if_pos h] at e2
              refine again (k + 1) [] ⟨hlt, e2⟩ (by omega) ?_
              (refine qis ?_ ?_ <;> (repeat' first | exact rfl | (refine qS ?_; constructor)))
          · rw [decide_eq_false hB] at cB
            have ev : fstE [unb (decide (0 ≤ (r.getD k (0, 0, 0)).1 ∧ (r.getD k (0, 0, 0)).1 ≤ (l.length : Int) - 1)) 6, unb false 2, unb (decide ((r.getD k (0, 0, 0)).2.1 ≤ (r.getD k (0, 0, 0)).2.2)) 9] = rdE l.length (r.getD k (0, 0, 0)) := by
              simp only [rdE, unl]
              rw [show decide ((-20000 ≤ (r.getD k (0, 0, 0)).2.1 ∧ (r.getD k (0, 0, 0)).2.1 ≤ 20000) ∧ -20000 ≤ (r.getD k (0, 0, 0)).2.2 ∧ (r.getD k (0, 0, 0)).2.2 ≤ 20000) = false from decide_eq_false (fun h => hB h.1)]
            (repeat' first | (refine Owe.same ?_; first | refine Owe.o ?_ | refine Owe.mk ?_ ?_) | (refine Fork.same ?_; (first | refine fkY ?_ | refine fkF ?_ | ((first | refine fkD ?_ ?_ | refine fkN ?_ ?_ | refine fkM ?_ ?_) <;> intro h))) | ((first | refine OpsL.same ?_ | refine OpsDL.same ?_); first | refine oK C104 rfl rfl rfl ?_ | refine oK cB rfl rfl rfl ?_ | refine oK C106 rfl rfl rfl ?_ | refine oK C91 rfl rfl rfl ?_) | refine MvQ.stay ?_)
            (repeat' first | (refine Owe.same ?_; first | refine Owe.o ?_ | refine Owe.mk ?_ ?_) | (refine Fork.same ?_; (first | refine fkD ?_ ?_ | refine fkN ?_ ?_ | refine fkM ?_ ?_) <;> intro h) | ((first | refine OpsL.same ?_ | refine OpsDL.same ?_); first | refine pK C90 rfl rfl ?_) | refine MvQ.stay ?_)
            · have h : ¬ rdE l.length (r.getD k (0, 0, 0)) = 0 := fun h9 => h (ev.trans h9)
              rw [if_neg h] at e2
              rw [e2]
              (refine rqK rfl ?_; (repeat' first | exact rfl | (refine qS ?_; constructor)))
              exact ev
            · have h : rdE l.length (r.getD k (0, 0, 0)) = 0 := ev.symm.trans h
              rw [if_pos h] at e2
              refine again (k + 1) [] ⟨hlt, e2⟩ (by omega) ?_
              (refine qis ?_ ?_ <;> (repeat' first | exact rfl | (refine qS ?_; constructor)))
        · (repeat' first | (refine Owe.same ?_; first | refine Owe.o ?_ | refine Owe.mk ?_ ?_) | (refine Fork.same ?_; (first | refine fkD ?_ ?_ | refine fkN ?_ ?_ | refine fkM ?_ ?_) <;> intro h) | refine MvQ.stay ?_)
          rw [hk.2, List.drop_of_length_le (by omega)]
          (refine rqK rfl ?_; (repeat' first | exact rfl | (refine qS ?_; constructor)))
    · rw [rdsE, if_neg h12]
      have e0 : fstE [(lbE x z l b).2, unb (decide ((r.length : Int) ≤ 12)) 8] = 8 := by rw [h0, decide_eq_false (by omega)]; rfl
      refine pi2 fn129 ?_
      (repeat' first | (refine Owe.same ?_; first | refine Owe.o ?_ | refine Owe.mk ?_ ?_) | (refine Fork.same ?_; (first | refine fkD ?_ ?_ | refine fkN ?_ ?_ | refine fkM ?_ ?_) <;> intro h) | ((first | refine OpsL.same ?_ | refine OpsDL.same ?_); first | refine oK c1 rfl rfl rfl ?_ | refine oK C91 rfl rfl rfl ?_) | refine MvQ.stay ?_)
      (repeat' first | (refine Owe.same ?_; first | refine Owe.o ?_ | refine Owe.mk ?_ ?_) | (refine Fork.same ?_; (first | refine fkD ?_ ?_ | refine fkN ?_ ?_ | refine fkM ?_ ?_) <;> intro h) | ((first | refine OpsL.same ?_ | refine OpsDL.same ?_); first | refine pK C90 rfl rfl ?_) | refine MvQ.stay ?_)
      · (refine rqK rfl ?_; (repeat' first | exact rfl | (refine qS ?_; constructor)))
        exact e0
      · rw [e0] at h
        exact absurd h (by decide)
  · rw [opR, if_neg h0]
    have e0 : fstE [(lbE x z l b).2, unb (decide ((r.length : Int) ≤ 12)) 8] = (lbE x z l b).2 := by simp only [fstE, if_neg h0]
    refine pi2 fn129 ?_
    (repeat' first | (refine Owe.same ?_; first | refine Owe.o ?_ | refine Owe.mk ?_ ?_) | (refine Fork.same ?_; (first | refine fkD ?_ ?_ | refine fkN ?_ ?_ | refine fkM ?_ ?_) <;> intro h) | ((first | refine OpsL.same ?_ | refine OpsDL.same ?_); first | refine oK c1 rfl rfl rfl ?_ | refine oK C91 rfl rfl rfl ?_) | refine MvQ.stay ?_)
    (repeat' first | (refine Owe.same ?_; first | refine Owe.o ?_ | refine Owe.mk ?_ ?_) | (refine Fork.same ?_; (first | refine fkD ?_ ?_ | refine fkN ?_ ?_ | refine fkM ?_ ?_) <;> intro h) | ((first | refine OpsL.same ?_ | refine OpsDL.same ?_); first | refine pK C90 rfl rfl ?_) | refine MvQ.stay ?_)
    · (refine rqK rfl ?_; (repeat' first | exact rfl | (refine qS ?_; constructor)))
      exact e0
    · rw [e0] at h
      exact absurd h h0
end Go.Pw

set_option linter.unusedSimpArgs false
set_option linter.unusedVariables false
namespace Go.Pw
set_option maxRecDepth 2000
open Go Go.Proofs A1 A2 A3 A4
theorem C135a {x z : Int} {l : List Lk} {b : List Rg} {r : List Lk} {i : Nat} : ((Ln.mk x z l b).Ok ∧ r.length ≤ 1000000 ∧ i < r.length ∧ rdOk l.length (r.getD i (0, 0, 0))) →
    PFD Try.prog 135 [.agg [int x, int z, trs l], .c (prs b), .c (trs r), .c (ints [(i : Int)])] (vi .i64 (ap1 ⟨x, z, l, b⟩ (r.getD i (0, 0, 0)))) := fun ⟨hL, hr, hi, ho⟩ => by
  have hn : 0 < l.length ∧ l.length ≤ 10 := hL.k.n
  have c1 := C74 hL
  have hg : (accL (plF ⟨x, z, l, b⟩) l.length).getD (r.getD i (0, 0, 0)).1.toNat (0, 0) = plF ⟨x, z, l, b⟩ (r.getD i (0, 0, 0)).1.toNat := accL_get _ (by omega)
  have hP := accL_len (plF ⟨x, z, l, b⟩) l.length
  have hb := hL.bd ((r.getD i (0, 0, 0)).1.toNat + 1) (show (r.getD i (0, 0, 0)).1.toNat + 1 ≤ l.length by omega)
  have c2 := C152 (p := (r.getD i (0, 0, 0)).2) (q := plF ⟨x, z, l, b⟩ (r.getD i (0, 0, 0)).1.toNat) ⟨⟨by omega, by omega⟩, ⟨by simp only [plF]; omega, by simp only [plF]; omega⟩⟩
  rw [← hg] at c2
  show PFD Try.prog 135 _ (vi .i64 (dsI (r.getD i (0, 0, 0)).2 (plF ⟨x, z, l, b⟩ (r.getD i (0, 0, 0)).1.toNat)))
  rw [← hg]
  generalize accL (plF ⟨x, z, l, b⟩) l.length = P at *
  refine pi1 fn135 ?_
  (repeat' first | (refine Owe.same ?_; first | refine Owe.o ?_ | refine Owe.mk ?_ ?_) | (refine Fork.same ?_; (first | refine fkY ?_ | refine fkF ?_ | ((first | refine fkD ?_ ?_ | refine fkN ?_ ?_ | refine fkM ?_ ?_) <;> intro h))) | ((first | refine OpsL.same ?_ | refine OpsDL.same ?_); first | refine oK c1 rfl rfl rfl ?_ | refine oK c2 rfl rfl rfl ?_) | refine MvQ.stay ?_)
  · change ((0 : Int) ≤ 0 ∧ (0 : Int) < ((1 : Nat) : Int)) ∧ 0 ≤ (i : Int) ∧ (i : Int) < r.length
    omega
  · change 0 ≤ (r.getD i (0, 0, 0)).1 ∧ (r.getD i (0, 0, 0)).1 < (P.length : Int)
    omega
  · (refine rqK rfl ?_; (repeat' first | exact rfl | (refine qS ?_; constructor)))
theorem C135b {x z : Int} {l : List Lk} {b : List Rg} {r : List Lk} {i k : Nat} : ((Ln.mk x z l b).Ok ∧ r.length ≤ 1000000 ∧ (i < r.length ∧ rdOk l.length (r.getD i (0, 0, 0))) ∧ (k < r.length ∧ rdOk l.length (r.getD k (0, 0, 0)))) →
    PFD Try.prog 135 [.agg [int x, int z, trs l], .c (prs b), .c (trs r), .c (ints [(i : Int), (k : Int)])] (vi .i64 (ap2 ⟨x, z, l, b⟩ (r.getD i (0, 0, 0)) (r.getD k (0, 0, 0)))) := fun ⟨hL, hr, ⟨hi, hoi⟩, hk, hok⟩ => by
  have hn : 0 < l.length ∧ l.length ≤ 10 := hL.k.n
  have hbl : b.length = l.length := hL.b
  by_cases hq : (r.getD k (0, 0, 0)).1 < (r.getD i (0, 0, 0)).1
  · rw [show ap2 ⟨x, z, l, b⟩ (r.getD i (0, 0, 0)) (r.getD k (0, 0, 0)) = ap2' ⟨x, z, l, b⟩ (r.getD k (0, 0, 0)) (r.getD i (0, 0, 0)) from if_pos hq]
    have hA := hL.bd ((r.getD k (0, 0, 0)).1.toNat + 1) (show (r.getD k (0, 0, 0)).1.toNat + 1 ≤ l.length by omega)
    have hB := hL.bd ((r.getD i (0, 0, 0)).1.toNat + 1) (show (r.getD i (0, 0, 0)).1.toNat + 1 ≤ l.length by omega)
    have c1 := C152 (p := (r.getD i (0, 0, 0)).2) (q := wlk ⟨x, z, l, b⟩ (r.getD k (0, 0, 0)) (r.getD i (0, 0, 0))) ⟨⟨by omega, by omega⟩, ⟨by simp only [wlk]; omega, by simp only [wlk]; omega⟩⟩
    have hbd : ∀ j, j < l.length → _ := fun j hj => hL.round hj
    dsimp only at hbd
    have e1 : ∀ j, (Ln.mk x z l b).pl (j + 1) = (Ln.mk x z l b).pl j + (l.getD j (0, 0, 0)).2.2 * (b.getD j (0, 0)).1 := fun j => rfl
    have e2 : ∀ j, (Ln.mk x z l b).ph (j + 1) = (Ln.mk x z l b).ph j + (l.getD j (0, 0, 0)).2.2 * (b.getD j (0, 0)).2 := fun j => rfl
    simp only [wlk] at c1
    show PFD Try.prog 135 _ (vi .i64 (dsI (r.getD i (0, 0, 0)).2 ((r.getD k (0, 0, 0)).2.1 + ((Ln.mk x z l b).pl ((r.getD i (0, 0, 0)).1.toNat + 1) - (Ln.mk x z l b).pl ((r.getD k (0, 0, 0)).1.toNat + 1)), (r.getD k (0, 0, 0)).2.2 + ((Ln.mk x z l b).ph ((r.getD i (0, 0, 0)).1.toNat + 1) - (Ln.mk x z l b).ph ((r.getD k (0, 0, 0)).1.toNat + 1)))))
    generalize dsI (r.getD i (0, 0, 0)).2 ((r.getD k (0, 0, 0)).2.1 + ((Ln.mk x z l b).pl ((r.getD i (0, 0, 0)).1.toNat + 1) - (Ln.mk x z l b).pl ((r.getD k (0, 0, 0)).1.toNat + 1)), (r.getD k (0, 0, 0)).2.2 + ((Ln.mk x z l b).ph ((r.getD i (0, 0, 0)).1.toNat + 1) - (Ln.mk x z l b).ph ((r.getD k (0, 0, 0)).1.toNat + 1))) = W at *
    generalize (Ln.mk x z l b).pl = pl at *
    generalize (Ln.mk x z l b).ph = ph at *
    refine pi1 fn135 ?_
    (repeat' first | (refine Owe.same ?_; first | refine Owe.o ?_ | refine Owe.mk ?_ ?_) | (refine Fork.same ?_; (first | refine fkY ?_ | refine fkF ?_ | ((first | refine fkD ?_ ?_ | refine fkN ?_ ?_ | refine fkM ?_ ?_) <;> intro h))) | ((first | refine OpsL.same ?_ | refine OpsDL.same ?_); first | refine oK c1 rfl rfl rfl ?_) | refine MvQ.stay ?_)
    · change ((((0 : Int) ≤ 0 ∧ (0 : Int) < ((2 : Nat) : Int)) ∧ 0 ≤ (i : Int) ∧ (i : Int) < r.length) ∧ (0 : Int) ≤ 1 ∧ (1 : Int) < ((2 : Nat) : Int)) ∧ 0 ≤ (k : Int) ∧ (k : Int) < r.length
      omega
    · change R64 ((r.getD k (0, 0, 0)).1 + 1)
      simp only [R64]; omega
    · refine Sat.lp (fun j : Nat => ⟨[(13, vi .i64 j), (4, .c (.bp 0 0)), (10, .c (.bp 1 0)), (11, .c (.bp 2 0)), (12, .c (.bp 3 0)), (1, .c (prs b))], [(0, .box [int x, int z, trs l]), (1, .box [int (r.getD k (0, 0, 0)).1, int (r.getD k (0, 0, 0)).2.1, int (r.getD k (0, 0, 0)).2.2]), (2, .box [int (r.getD i (0, 0, 0)).1, int (r.getD i (0, 0, 0)).2.1, int (r.getD i (0, 0, 0)).2.2]), (3, .box [int ((r.getD k (0, 0, 0)).2.1 + (pl j - pl ((r.getD k (0, 0, 0)).1.toNat + 1))), int ((r.getD k (0, 0, 0)).2.2 + (ph j - ph ((r.getD k (0, 0, 0)).1.toNat + 1)))])], 4⟩)
        (fun j => (r.getD k (0, 0, 0)).1.toNat + 1 ≤ j ∧ j ≤ (r.getD i (0, 0, 0)).1.toNat + 1) (fun j => (r.getD i (0, 0, 0)).1.toNat + 1 - j) ((r.getD k (0, 0, 0)).1.toNat + 1) [0, 13, 14, 17] ⟨Nat.le_refl _, by omega⟩ ?_ ?_
      · (refine qis ?_ ?_ <;> (repeat' first | exact rfl | (refine qS ?_; constructor)))
        all_goals first | omega | (rw [Int.sub_self, Int.add_zero]; rfl) | (change (r.getD k (0, 0, 0)).1 + 1 = _; omega)
      · intro j hj
        refine Fork.dec (fun hlt => ?_) (fun hlt => ?_)
        · have hlt : j ≤ (r.getD i (0, 0, 0)).1.toNat := by omega
          have hrd := hbd j (by omega)
          have f1 := e1 j
          have f2 := e2 j
          (repeat' first | (refine Owe.same ?_; first | refine Owe.o ?_ | refine Owe.mk ?_ ?_) | (refine Fork.same ?_; (first | refine fkY ?_ | refine fkF ?_ | ((first | refine fkD ?_ ?_ | refine fkN ?_ ?_ | refine fkM ?_ ?_) <;> intro h))) | ((first | refine OpsL.same ?_ | refine OpsDL.same ?_); first | refine oK c1 rfl rfl rfl ?_) | refine MvQ.stay ?_)
          refine again (j + 1) [0, 1, 2, 3] ⟨by omega, by omega⟩ (by omega) ?_
          (refine qis ?_ ?_ <;> (repeat' first | exact rfl | (refine qS ?_; constructor)))
          · have f1 : pl (j + 1) = pl j + (l.getD (j : Int).toNat (0, 0, 0)).2.2 * (b.getD (j : Int).toNat (0, 0)).1 := f1
            omega
          · have f2 : ph (j + 1) = ph j + (l.getD (j : Int).toNat (0, 0, 0)).2.2 * (b.getD (j : Int).toNat (0, 0)).2 := f2
            omega
        · have : j = (r.getD i (0, 0, 0)).1.toNat + 1 := by omega
          subst this
          (repeat' first | (refine Owe.same ?_; first | refine Owe.o ?_ | refine Owe.mk ?_ ?_) | (refine Fork.same ?_; (first | refine fkY ?_ | refine fkF ?_ | ((first | refine fkD ?_ ?_ | refine fkN ?_ ?_ | refine fkM ?_ ?_) <;> intro h))) | ((first | refine OpsL.same ?_ | refine OpsDL.same ?_); first | refine oK c1 rfl rfl rfl ?_) | refine MvQ.stay ?_)
          (refine rqK rfl ?_; (repeat' first | exact rfl | (refine qS ?_; constructor)))
    · exact (h hq).elim
  · rw [show ap2 ⟨x, z, l, b⟩ (r.getD i (0, 0, 0)) (r.getD k (0, 0, 0)) = ap2' ⟨x, z, l, b⟩ (r.getD i (0, 0, 0)) (r.getD k (0, 0, 0)) from if_neg hq]
    have hA := hL.bd ((r.getD i (0, 0, 0)).1.toNat + 1) (show (r.getD i (0, 0, 0)).1.toNat + 1 ≤ l.length by omega)
    have hB := hL.bd ((r.getD k (0, 0, 0)).1.toNat + 1) (show (r.getD k (0, 0, 0)).1.toNat + 1 ≤ l.length by omega)
    have c1 := C152 (p := (r.getD k (0, 0, 0)).2) (q := wlk ⟨x, z, l, b⟩ (r.getD i (0, 0, 0)) (r.getD k (0, 0, 0))) ⟨⟨by omega, by omega⟩, ⟨by simp only [wlk]; omega, by simp only [wlk]; omega⟩⟩
    have hbd : ∀ j, j < l.length → _ := fun j hj => hL.round hj
    dsimp only at hbd
    have e1 : ∀ j, (Ln.mk x z l b).pl (j + 1) = (Ln.mk x z l b).pl j + (l.getD j (0, 0, 0)).2.2 * (b.getD j (0, 0)).1 := fun j => rfl
    have e2 : ∀ j, (Ln.mk x z l b).ph (j + 1) = (Ln.mk x z l b).ph j + (l.getD j (0, 0, 0)).2.2 * (b.getD j (0, 0)).2 := fun j => rfl
    simp only [wlk] at c1
    show PFD Try.prog 135 _ (vi .i64 (dsI (r.getD k (0, 0, 0)).2 ((r.getD i (0, 0, 0)).2.1 + ((Ln.mk x z l b).pl ((r.getD k (0, 0, 0)).1.toNat + 1) - (Ln.mk x z l b).pl ((r.getD i (0, 0, 0)).1.toNat + 1)), (r.getD i (0, 0, 0)).2.2 + ((Ln.mk x z l b).ph ((r.getD k (0, 0, 0)).1.toNat + 1) - (Ln.mk x z l b).ph ((r.getD i (0, 0, 0)).1.toNat + 1)))))
    generalize dsI (r.getD k (0, 0, 0)).2 ((r.getD i (0, 0, 0)).2.1 + ((Ln.mk x z l b).pl ((r.getD k (0, 0, 0)).1.toNat + 1) - (Ln.mk x z l b).pl ((r.getD i (0, 0, 0)).1.toNat + 1)), (r.getD i (0, 0, 0)).2.2 + ((Ln.mk x z l b).ph ((r.getD k (0, 0, 0)).1.toNat + 1) - (Ln.mk x z l b).ph ((r.getD i (0, 0, 0)).1.toNat + 1))) = W at *
    generalize (Ln.mk x z l b).pl = pl at *
    generalize (Ln.mk x z l b).ph = ph at *
    refine pi1 fn135 ?_
    (repeat' first | (refine Owe.same ?_; first | refine Owe.o ?_ | refine Owe.mk ?_ ?_) | (refine Fork.same ?_; (first | refine fkY ?_ | refine fkF ?_ | ((first | refine fkD ?_ ?_ | refine fkN ?_ ?_ | refine fkM ?_ ?_) <;> intro h))) | ((first | refine OpsL.same ?_ | refine OpsDL.same ?_); first | refine oK c1 rfl rfl rfl ?_) | refine MvQ.stay ?_)
    · change ((((0 : Int) ≤ 0 ∧ (0 : Int) < ((2 : Nat) : Int)) ∧ 0 ≤ (i : Int) ∧ (i : Int) < r.length) ∧ (0 : Int) ≤ 1 ∧ (1 : Int) < ((2 : Nat) : Int)) ∧ 0 ≤ (k : Int) ∧ (k : Int) < r.length
      omega
    · exact (hq h).elim
    · change R64 ((r.getD i (0, 0, 0)).1 + 1)
      simp only [R64]; omega
    · refine Sat.lp (fun j : Nat => ⟨[(13, vi .i64 j), (4, .c (.bp 0 0)), (10, .c (.bp 1 0)), (11, .c (.bp 2 0)), (12, .c (.bp 3 0)), (1, .c (prs b))], [(0, .box [int x, int z, trs l]), (1, .box [int (r.getD i (0, 0, 0)).1, int (r.getD i (0, 0, 0)).2.1, int (r.getD i (0, 0, 0)).2.2]), (2, .box [int (r.getD k (0, 0, 0)).1, int (r.getD k (0, 0, 0)).2.1, int (r.getD k (0, 0, 0)).2.2]), (3, .box [int ((r.getD i (0, 0, 0)).2.1 + (pl j - pl ((r.getD i (0, 0, 0)).1.toNat + 1))), int ((r.getD i (0, 0, 0)).2.2 + (ph j - ph ((r.getD i (0, 0, 0)).1.toNat + 1)))])], 4⟩)
        (fun j => (r.getD i (0, 0, 0)).1.toNat + 1 ≤ j ∧ j ≤ (r.getD k (0, 0, 0)).1.toNat + 1) (fun j => (r.getD k (0, 0, 0)).1.toNat + 1 - j) ((r.getD i (0, 0, 0)).1.toNat + 1) [0, 13, 14, 17] ⟨Nat.le_refl _, by omega⟩ ?_ ?_
      · (refine qis ?_ ?_ <;> (repeat' first | exact rfl | (refine qS ?_; constructor)))
        all_goals first | omega | (rw [Int.sub_self, Int.add_zero]; rfl) | (change (r.getD i (0, 0, 0)).1 + 1 = _; omega)
      · intro j hj
        refine Fork.dec (fun hlt => ?_) (fun hlt => ?_)
        · have hlt : j ≤ (r.getD k (0, 0, 0)).1.toNat := by omega
          have hrd := hbd j (by omega)
          have f1 := e1 j
          have f2 := e2 j
          (repeat' first | (refine Owe.same ?_; first | refine Owe.o ?_ | refine Owe.mk ?_ ?_) | (refine Fork.same ?_; (first | refine fkY ?_ | refine fkF ?_ | ((first | refine fkD ?_ ?_ | refine fkN ?_ ?_ | refine fkM ?_ ?_) <;> intro h))) | ((first | refine OpsL.same ?_ | refine OpsDL.same ?_); first | refine oK c1 rfl rfl rfl ?_) | refine MvQ.stay ?_)
          refine again (j + 1) [0, 1, 2, 3] ⟨by omega, by omega⟩ (by omega) ?_
          (refine qis ?_ ?_ <;> (repeat' first | exact rfl | (refine qS ?_; constructor)))
          · have f1 : pl (j + 1) = pl j + (l.getD (j : Int).toNat (0, 0, 0)).2.2 * (b.getD (j : Int).toNat (0, 0)).1 := f1
            omega
          · have f2 : ph (j + 1) = ph j + (l.getD (j : Int).toNat (0, 0, 0)).2.2 * (b.getD (j : Int).toNat (0, 0)).2 := f2
            omega
        · have : j = (r.getD k (0, 0, 0)).1.toNat + 1 := by omega
          subst this
          (repeat' first | (refine Owe.same ?_; first | refine Owe.o ?_ | refine Owe.mk ?_ ?_) | (refine Fork.same ?_; (first | refine fkY ?_ | refine fkF ?_ | ((first | refine fkD ?_ ?_ | refine fkN ?_ ?_ | refine fkM ?_ ?_) <;> intro h))) | ((first | refine OpsL.same ?_ | refine OpsDL.same ?_); first | refine oK c1 rfl rfl rfl ?_) | refine MvQ.stay ?_)
          (refine rqK rfl ?_; (repeat' first | exact rfl | (refine qS ?_; constructor)))
theorem least {q : Nat → Prop} : ∀ n : Nat, (∀ i, i < n → ¬ q i) ∨ ∃ i, i < n ∧ q i ∧ ∀ j, j < i → ¬ q j
  | 0 => .inl fun i hi => absurd hi (Nat.not_lt_zero _)
  | n + 1 => by
    rcases least (q := q) n with h | ⟨i, hi, h1, h2⟩
    · by_cases hn : q n
      · exact .inr ⟨n, Nat.lt_succ_self n, hn, h⟩
      · refine .inl fun i hi => ?_
        rcases Nat.lt_succ_iff_lt_or_eq.1 hi with h1 | rfl
        · exact h i h1
        · exact hn
    · exact .inr ⟨i, by omega, h1, h2⟩
/-- A list is the first contradiction: of one reading, or else of two. -/
inductive Con (p : Nat → Prop) (q : Nat → Nat → Prop) (n : Nat) : List Int → Prop
  | one (i : Nat) (hi : i < n) (h : p i) (hb : ∀ j, j < i → ¬ p j) : Con p q n [(i : Int)]
  | two (i k : Nat) (hn : ∀ j, j < n → ¬ p j) (hik : i < k) (hk : k < n) (h : q i k) (hi : ∀ i', i' < i → ∀ k', i' < k' → k' < n → ¬ q i' k') (hkb : ∀ k', i < k' → k' < k → ¬ q i k') : Con p q n [(i : Int), (k : Int)]
  | non (hn : ∀ j, j < n → ¬ p j) (h : ∀ i k, i < k → k < n → ¬ q i k) : Con p q n []
theorem Con.exists (p : Nat → Prop) (q : Nat → Nat → Prop) (n : Nat) : ∃ s, Con p q n s := by
  rcases least (q := p) n with h | ⟨i, hi, h1, h2⟩
  · rcases least (q := fun i => ∃ k, i < k ∧ k < n ∧ q i k) n with g | ⟨i, hi, ⟨k0, g0, g1, g2⟩, g3⟩
    · exact ⟨_, .non h fun i k hik hk hq => g i (by omega) ⟨k, hik, hk, hq⟩⟩
    · rcases least (q := fun k => i < k ∧ q i k) n with f | ⟨k, hk, ⟨f1, f2⟩, f3⟩
      · exact absurd ⟨g0, g2⟩ (f k0 g1)
      · exact ⟨_, .two i k h f1 hk f2 (fun i' hi' k' h1 h2 h3 => g3 i' hi' ⟨k', h1, h2, h3⟩) fun k' h1 h2 h3 => f3 k' h2 ⟨h1, h3⟩⟩
  · exact ⟨_, .one i hi h1 h2⟩
theorem Con.unique {p : Nat → Prop} {q : Nat → Nat → Prop} {n : Nat} {s t : List Int} (h : Con p q n s) (g : Con p q n t) : s = t := by
  cases h with
  | one i hi h hb =>
    cases g with
    | one j hj g gb =>
      rcases Nat.lt_trichotomy i j with e | rfl | e
      · exact absurd h (gb i e)
      · rfl
      · exact absurd g (hb j e)
    | two _ _ gn => exact absurd h (gn i hi)
    | non gn => exact absurd h (gn i hi)
  | two i k hn hik hk h hi hkb =>
    cases g with
    | one j hj g gb => exact absurd g (hn j hj)
    | two j m gn gjm gm g gi gmb =>
      rcases Nat.lt_trichotomy i j with e | rfl | e
      · exact absurd h (gi i e k hik hk)
      · rcases Nat.lt_trichotomy k m with e | rfl | e
        · exact absurd h (gmb k hik e)
        · rfl
        · exact absurd g (hkb m gjm e)
      · exact absurd g (hi j e m gjm gm)
    | non gn g => exact absurd h (g i k hik hk)
  | non hn h =>
    cases g with
    | one j hj g gb => exact absurd g (hn j hj)
    | two j m gn gjm gm g gi gmb => exact absurd g (h j m gjm gm)
    | non => rfl
theorem Con.len {p : Nat → Prop} {q : Nat → Nat → Prop} {n : Nat} {s : List Int} (h : Con p q n s) : s.length ≤ 2 := by cases h <;> simp
abbrev rd (r : List Lk) (i : Nat) : Lk := r.getD i (0, 0, 0)
abbrev CnR (L : Ln) (r : List Lk) (s : List Int) : Prop := Con (fun i => 0 < ap1 L (rd r i)) (fun i k => 0 < ap2 L (rd r i) (rd r k)) r.length s
theorem C82 {x z : Int} {l : List Lk} {b : List Rg} {r : List Lk} {s : List Int} : ((Ln.mk x z l b).Ok ∧ r.length ≤ 1000000 ∧ (∀ i, i < r.length → rdOk l.length (rd r i)) ∧ CnR ⟨x, z, l, b⟩ r s) →
    PFD Try.prog 82 [.agg [int x, int z, trs l], .c (prs b), .c (trs r)] (.tup [.c (ints s), vbl (!s.isEmpty)]) := fun ⟨hL, hr, ho, hs⟩ => by
  have ca := fun (i : Nat) (hi : i < r.length) => C135a (i := i) ⟨hL, hr, hi, ho i hi⟩
  have cb := fun (i k : Nat) (hi : i < r.length) (hk : k < r.length) => C135b (i := i) (k := k) ⟨hL, hr, ⟨hi, ho i hi⟩, ⟨hk, ho k hk⟩⟩
  have hab : ∀ i, i < r.length → True := fun _ _ => trivial
  simp only [CnR] at hs
  generalize hp : (fun i => ap1 ⟨x, z, l, b⟩ (rd r i)) = p at *
  generalize hq : (fun i k => ap2 ⟨x, z, l, b⟩ (rd r i) (rd r k)) = q at *
  replace ca : ∀ i, i < r.length → PFD Try.prog 135 [.agg [int x, int z, trs l], .c (prs b), .c (trs r), .c (ints [(i : Int)])] (vi .i64 (p i)) := fun i hi => by rw [← hp]; exact ca i hi
  replace cb : ∀ i k, i < r.length → k < r.length → PFD Try.prog 135 [.agg [int x, int z, trs l], .c (prs b), .c (trs r), .c (ints [(i : Int), (k : Int)])] (vi .i64 (q i k)) := fun i k hi hk => by rw [← hq]; exact cb i k hi hk
  replace hs : Con (fun i => 0 < p i) (fun i k => 0 < q i k) r.length s := by rw [← hp, ← hq]; exact hs
  clear hp hq ho hL
  refine pi2 fn82 ?_
  (repeat' first | (refine Owe.same ?_; first | refine Owe.o ?_ | refine Owe.mk ?_ ?_) | (refine Fork.same ?_; (first | refine fkD ?_ ?_ | refine fkN ?_ ?_ | refine fkM ?_ ?_) <;> intro h) | refine MvQ.stay ?_)
  refine Sat.lp (fun i : Nat => ⟨[(8, vi .i64 i), (3, .c (.bp 0 0)), (1, .c (prs b)), (2, .c (trs r))], [(0, .box [int x, int z, trs l])], 1⟩)
    (fun i => i ≤ r.length ∧ ∀ j, j < i → ¬ 0 < p j) (fun i => r.length - i) 0 [0] ⟨Nat.zero_le _, fun j h => absurd h (Nat.not_lt_zero _)⟩ ?_ ?_
  · (refine qis ?_ ?_ <;> (repeat' first | exact rfl | (refine qS ?_; constructor)))
  · intro i hi
    refine Fork.dec (fun hlt => ?_) (fun hlt => ?_)
    · have hlt : i < r.length := by omega
      have c1 := ca i hlt
      (repeat' first | (refine Owe.same ?_; first | refine Owe.o ?_ | refine Owe.mk ?_ ?_) | (refine Fork.same ?_; (first | refine fkD ?_ ?_ | refine fkN ?_ ?_ | refine fkM ?_ ?_) <;> intro h) | ((first | refine OpsL.same ?_ | refine OpsDL.same ?_); first | refine pK c1 rfl rfl ?_) | refine MvQ.stay ?_)
      · have h : 0 < p i := h
        rw [hs.unique (.one i hlt h hi.2)]
        (refine rqK rfl ?_; (repeat' first | exact rfl | (refine qS ?_; constructor)))
      · have h : ¬ 0 < p i := h
        refine again (i + 1) [0] ⟨hlt, fun j hj => ?_⟩ (by omega) ?_
        · rcases Nat.lt_succ_iff_lt_or_eq.1 hj with h3 | rfl
          · exact hi.2 j h3
          · exact h
        · (refine qis ?_ ?_ <;> (repeat' first | exact rfl | (refine qS ?_; constructor)))
    · have : i = r.length := by omega
      subst this
      have hn := hi.2
      (repeat' first | (refine Owe.same ?_; first | refine Owe.o ?_ | refine Owe.mk ?_ ?_) | (refine Fork.same ?_; (first | refine fkD ?_ ?_ | refine fkN ?_ ?_ | refine fkM ?_ ?_) <;> intro h) | refine MvQ.stay ?_)
      refine Sat.lp (fun i : Nat => ⟨[(9, vi .i64 i), (3, .c (.bp 0 0)), (1, .c (prs b)), (2, .c (trs r))], [(0, .box [int x, int z, trs l])], 1⟩)
        (fun i => i ≤ r.length ∧ ∀ i', i' < i → ∀ k', i' < k' → k' < r.length → ¬ 0 < q i' k') (fun i => r.length - i) 0 [0] ⟨Nat.zero_le _, fun j h => absurd h (Nat.not_lt_zero _)⟩ ?_ ?_
      · (refine qis ?_ ?_ <;> (repeat' first | exact rfl | (refine qS ?_; constructor)))
      · intro i hi
        refine Fork.dec (fun hlt => ?_) (fun hlt => ?_)
        · have hlt : i < r.length := by omega
          (repeat' first | (refine Owe.same ?_; first | refine Owe.o ?_ | refine Owe.mk ?_ ?_) | (refine Fork.same ?_; (first | refine fkD ?_ ?_ | refine fkN ?_ ?_ | refine fkM ?_ ?_) <;> intro h) | refine MvQ.stay ?_)
          refine Sat.lp (fun k : Nat => ⟨[(10, vi .i64 k), (9, vi .i64 i), (3, .c (.bp 0 0)), (1, .c (prs b)), (2, .c (trs r))], [(0, .box [int x, int z, trs l])], 1⟩)
            (fun k => i + 1 ≤ k ∧ k ≤ r.length ∧ ∀ k', i < k' → k' < k → ¬ 0 < q i k') (fun k => r.length - k) (i + 1) [0] ⟨Nat.le_refl _, hlt, fun k' h1 h2 => by omega⟩ ?_ ?_
          · (refine qis ?_ ?_ <;> (repeat' first | exact rfl | (refine qS ?_; constructor)))
          · intro k hk
            refine Fork.dec (fun hlt2 => ?_) (fun hlt2 => ?_)
            · have hlt2 : k < r.length := by omega
              have c1 := cb i k hlt hlt2
              (repeat' first | (refine Owe.same ?_; first | refine Owe.o ?_ | refine Owe.mk ?_ ?_) | (refine Fork.same ?_; (first | refine fkD ?_ ?_ | refine fkN ?_ ?_ | refine fkM ?_ ?_) <;> intro h) | ((first | refine OpsL.same ?_ | refine OpsDL.same ?_); first | refine pK c1 rfl rfl ?_) | refine MvQ.stay ?_)
              · have h : 0 < q i k := h
                rw [hs.unique (.two i k hn (by omega) hlt2 h hi.2 hk.2.2)]
                (refine rqK rfl ?_; (repeat' first | exact rfl | (refine qS ?_; constructor)))
              · have h : ¬ 0 < q i k := h
                refine again (k + 1) [0] ⟨by omega, hlt2, fun k' h1 h2 => ?_⟩ (by omega) ?_
                · rcases Nat.lt_succ_iff_lt_or_eq.1 h2 with h3 | rfl
                  · exact hk.2.2 k' h1 h3
                  · exact h
                · (refine qis ?_ ?_ <;> (repeat' first | exact rfl | (refine qS ?_; constructor)))
            · have : k = r.length := by omega
              subst this
              (repeat' first | (refine Owe.same ?_; first | refine Owe.o ?_ | refine Owe.mk ?_ ?_) | (refine Fork.same ?_; (first | refine fkD ?_ ?_ | refine fkN ?_ ?_ | refine fkM ?_ ?_) <;> intro h) | refine MvQ.stay ?_)
              refine again (i + 1) [0] ⟨hlt, fun i' h1 => ?_⟩ (by omega) ?_
              · rcases Nat.lt_succ_iff_lt_or_eq.1 h1 with h3 | rfl
                · exact hi.2 i' h3
                · exact hk.2.2
              · (refine qis ?_ ?_ <;> (repeat' first | exact rfl | (refine qS ?_; constructor)))
        · have : i = r.length := by omega
          subst this
          rw [hs.unique (.non hn fun i k hik hk => hi.2 i (by omega) k hik hk)]
          (repeat' first | (refine Owe.same ?_; first | refine Owe.o ?_ | refine Owe.mk ?_ ?_) | (refine Fork.same ?_; (first | refine fkD ?_ ?_ | refine fkN ?_ ?_ | refine fkM ?_ ?_) <;> intro h) | refine MvQ.stay ?_)
          (refine rqK rfl ?_; (repeat' first | exact rfl | (refine qS ?_; constructor)))
theorem opR_ok {x z : Int} {l : List Lk} {b : List Rg} {r : List Lk} (h : opR x z l b r = 0) : (Ln.mk x z l b).Ok ∧ r.length ≤ 12 ∧ ∀ i, i < r.length → rdOk l.length (rd r i) := by
  simp only [opR] at h
  split at h
  · rename_i h0
    have := rdsE_ok.1 h
    exact ⟨lbE_ok h0, this.1, this.2⟩
  · rename_i h0; exact absurd h h0
theorem C78 {x z : Int} {l : List Lk} {b : List Rg} {r : List Lk} {s : List Int} : ((l.length ≤ 1000000 ∧ b.length ≤ 1000000 ∧ r.length ≤ 1000000) ∧ (opR x z l b r = 0 → CnR ⟨x, z, l, b⟩ r s)) →
    PFD Try.prog 78 [.agg [int x, int z, trs l], .c (prs b), .c (trs r)] (.tup [.c (ints (orE (opR x z l b r) s)), vi .i64 (if opR x z l b r = 0 then (if s = [] then 12 else 0) else opR x z l b r)]) := fun ⟨hl, hs⟩ => by
  have c1 := C129 (x := x) (z := z) hl
  by_cases h0 : opR x z l b r = 0
  · obtain ⟨hL, hr, ho⟩ := opR_ok h0
    replace hs := hs h0
    rw [orE, if_pos h0, if_pos h0]
    rw [h0] at c1
    have ca := fun (i : Nat) (hi : i < r.length) => C132 (o := rd r i) ⟨hL, ho i hi⟩
    have cb := fun (i k : Nat) (hi : i < r.length) (hk : k < r.length) => C133 (a := rd r i) (b := rd r k) ⟨hL, ho i hi, ho k hk⟩
    simp only [CnR] at hs
    generalize hp : (fun i => ap1 ⟨x, z, l, b⟩ (rd r i)) = p at *
    generalize hq : (fun i k => ap2 ⟨x, z, l, b⟩ (rd r i) (rd r k)) = q at *
    replace ca : ∀ i, i < r.length → PFD Try.prog 132 [.agg [int x, int z, trs l, prs b], .agg [int (rd r i).1, int (rd r i).2.1, int (rd r i).2.2]] (vi .i64 (max 0 (p i))) := fun i hi => by rw [← hp]; exact ca i hi
    replace cb : ∀ i k, i < r.length → k < r.length → PFD Try.prog 133 [.agg [int x, int z, trs l, prs b], .agg [int (rd r i).1, int (rd r i).2.1, int (rd r i).2.2], .agg [int (rd r k).1, int (rd r k).2.1, int (rd r k).2.2]] (vi .i64 (max 0 (q i k))) := fun i k hi hk => by rw [← hq]; exact cb i k hi hk
    replace hs : Con (fun i => 0 < p i) (fun i k => 0 < q i k) r.length s := by rw [← hp, ← hq]; exact hs
    clear hp hq ho hL h0
    change PFD Try.prog 129 _ (.tup [.agg [int x, int z, trs l, prs b], vi .i64 0]) at c1
    refine pi2 fn78 ?_
    (repeat' first | (refine Owe.same ?_; first | refine Owe.o ?_ | refine Owe.mk ?_ ?_) | (refine Fork.same ?_; (first | refine fkY ?_ | refine fkF ?_ | ((first | refine fkD ?_ ?_ | refine fkN ?_ ?_ | refine fkM ?_ ?_) <;> intro h))) | ((first | refine OpsL.same ?_ | refine OpsDL.same ?_); first | refine oK c1 rfl rfl rfl ?_) | refine MvQ.stay ?_)
    refine Ops.cs rfl rfl (CallS.of fn130 rfl ?_)
    (repeat' first | (refine Owe.same ?_; first | refine Owe.o ?_ | refine Owe.mk ?_ ?_) | (refine Fork.same ?_; (first | refine fkD ?_ ?_ | refine fkN ?_ ?_ | refine fkM ?_ ?_) <;> intro h) | refine MvQ.stay ?_)
    refine Sat.lp (fun i : Nat => ⟨[(8, vi .i64 i), (7, vi .i64 r.length), (6, .c (trs r)), (0, .c (trs r)), (1, .c (.fn 131 [1]))], [(1, .box [int x, int z, trs l, prs b]), (0, .box [int x, int z, trs l])], 2⟩)
      (fun i => i ≤ r.length ∧ ∀ j, j < i → ¬ 0 < p j) (fun i => r.length - i) 0 [] ⟨Nat.zero_le _, fun j h => absurd h (Nat.not_lt_zero _)⟩ ?_ ?_
    · (refine qis ?_ ?_ <;> (repeat' first | exact rfl | (refine qS ?_; constructor)))
    · intro i hi
      refine Fork.dec (fun hlt => ?_) (fun hlt => ?_)
      · have hlt : i < r.length := by omega
        have c2 := ca i hlt
        (repeat' first | (refine Owe.same ?_; first | refine Owe.o ?_ | refine Owe.mk ?_ ?_) | (refine Fork.same ?_; (first | refine fkD ?_ ?_ | refine fkN ?_ ?_ | refine fkM ?_ ?_) <;> intro h) | refine MvQ.stay ?_)
        refine Ops.cs rfl rfl (CallS.of fn131 rfl ?_)
        (repeat' first | (refine Owe.same ?_; first | refine Owe.o ?_ | refine Owe.mk ?_ ?_) | (refine Fork.same ?_; (first | refine fkY ?_ | refine fkF ?_ | ((first | refine fkD ?_ ?_ | refine fkN ?_ ?_ | refine fkM ?_ ?_) <;> intro h))) | ((first | refine OpsL.same ?_ | refine OpsDL.same ?_); first | refine oK c2 rfl rfl rfl ?_) | refine MvQ.stay ?_)
        · have h : 0 < p i := by have h : 0 < max 0 (p i) := h; omega
          rw [hs.unique (.one i hlt h hi.2)]
          (refine rqK rfl ?_; (repeat' first | exact rfl | (refine qS ?_; constructor)))
        · have h : ¬ 0 < p i := by have h : ¬ 0 < max 0 (p i) := h; omega
          refine again (i + 1) [] ⟨hlt, fun j hj => ?_⟩ (by omega) ?_
          · rcases Nat.lt_succ_iff_lt_or_eq.1 hj with h3 | rfl
            · exact hi.2 j h3
            · exact h
          · (refine qis ?_ ?_ <;> (repeat' first | exact rfl | (refine qS ?_; constructor)))
      · have : i = r.length := by omega
        subst this
        have hn := hi.2
        (repeat' first | (refine Owe.same ?_; first | refine Owe.o ?_ | refine Owe.mk ?_ ?_) | (refine Fork.same ?_; (first | refine fkY ?_ | refine fkF ?_ | ((first | refine fkD ?_ ?_ | refine fkN ?_ ?_ | refine fkM ?_ ?_) <;> intro h))) | ((first | refine OpsL.same ?_ | refine OpsDL.same ?_); first | refine oK c1 rfl rfl rfl ?_) | refine MvQ.stay ?_)
        refine Sat.lp (fun i : Nat => ⟨[(33, vi .i64 i), (32, vi .i64 r.length), (31, .c (trs r)), (2, .c (trs r)), (8, .c (.bp 1 0))], [(1, .box [int x, int z, trs l, prs b]), (0, .box [int x, int z, trs l])], 2⟩)
          (fun i => i ≤ r.length ∧ ∀ i', i' < i → ∀ k', i' < k' → k' < r.length → ¬ 0 < q i' k') (fun i => r.length - i) 0 [0, 1] ⟨Nat.zero_le _, fun j h => absurd h (Nat.not_lt_zero _)⟩ ?_ ?_
        · (refine qis ?_ ?_ <;> (repeat' first | exact rfl | (refine qS ?_; constructor)))
        · intro i hi
          refine Fork.dec (fun hlt => ?_) (fun hlt => ?_)
          · have hlt : i < r.length := by omega
            (repeat' first | (refine Owe.same ?_; first | refine Owe.o ?_ | refine Owe.mk ?_ ?_) | (refine Fork.same ?_; (first | refine fkD ?_ ?_ | refine fkN ?_ ?_ | refine fkM ?_ ?_) <;> intro h) | refine MvQ.stay ?_)
            refine Sat.lp (fun k : Nat => ⟨[(13, vi .i64 k), (11, vi .i64 i), (12, .c (.bp 2 0)), (33, vi .i64 i), (32, vi .i64 r.length), (31, .c (trs r)), (2, .c (trs r)), (8, .c (.bp 1 0))], [(2, .box [int (rd r i).1, int (rd r i).2.1, int (rd r i).2.2]), (1, .box [int x, int z, trs l, prs b]), (0, .box [int x, int z, trs l])], 3⟩)
              (fun k => i + 1 ≤ k ∧ k ≤ r.length ∧ ∀ k', i < k' → k' < k → ¬ 0 < q i k') (fun k => r.length - k) (i + 1) [0, 1, 2] ⟨Nat.le_refl _, hlt, fun k' h1 h2 => by omega⟩ ?_ ?_
            · (refine qis ?_ ?_ <;> (repeat' first | exact rfl | (refine qS ?_; constructor)))
            · intro k hk
              refine Fork.dec (fun hlt2 => ?_) (fun hlt2 => ?_)
              · have hlt2 : k < r.length := by omega
                have c3 := cb i k hlt hlt2
                (repeat' first | (refine Owe.same ?_; first | refine Owe.o ?_ | refine Owe.mk ?_ ?_) | (refine Fork.same ?_; (first | refine fkY ?_ | refine fkF ?_ | ((first | refine fkD ?_ ?_ | refine fkN ?_ ?_ | refine fkM ?_ ?_) <;> intro h))) | ((first | refine OpsL.same ?_ | refine OpsDL.same ?_); first | refine oK c3 rfl rfl rfl ?_) | refine MvQ.stay ?_)
                · have h : 0 < q i k := by have h : 0 < max 0 (q i k) := h; omega
                  rw [hs.unique (.two i k hn (by omega) hlt2 h hi.2 hk.2.2)]
                  (refine rqK rfl ?_; (repeat' first | exact rfl | (refine qS ?_; constructor)))
                · have h : ¬ 0 < q i k := by have h : ¬ 0 < max 0 (q i k) := h; omega
                  refine again (k + 1) [0, 1, 2] ⟨by omega, hlt2, fun k' h1 h2 => ?_⟩ (by omega) ?_
                  · rcases Nat.lt_succ_iff_lt_or_eq.1 h2 with h3 | rfl
                    · exact hk.2.2 k' h1 h3
                    · exact h
                  · (refine qis ?_ ?_ <;> (repeat' first | exact rfl | (refine qS ?_; constructor)))
              · have : k = r.length := by omega
                subst this
                (repeat' first | (refine Owe.same ?_; first | refine Owe.o ?_ | refine Owe.mk ?_ ?_) | (refine Fork.same ?_; (first | refine fkD ?_ ?_ | refine fkN ?_ ?_ | refine fkM ?_ ?_) <;> intro h) | refine MvQ.stay ?_)
                refine again (i + 1) [0, 1] ⟨hlt, fun i' h1 => ?_⟩ (by omega) ?_
                · rcases Nat.lt_succ_iff_lt_or_eq.1 h1 with h3 | rfl
                  · exact hi.2 i' h3
                  · exact hk.2.2
                · (refine qis ?_ ?_ <;> (repeat' first | exact rfl | (refine qS ?_; constructor)))
          · have : i = r.length := by omega
            subst this
            rw [hs.unique (.non hn fun i k hik hk => hi.2 i (by omega) k hik hk)]
            (repeat' first | (refine Owe.same ?_; first | refine Owe.o ?_ | refine Owe.mk ?_ ?_) | (refine Fork.same ?_; (first | refine fkD ?_ ?_ | refine fkN ?_ ?_ | refine fkM ?_ ?_) <;> intro h) | refine MvQ.stay ?_)
            (refine rqK rfl ?_; (repeat' first | exact rfl | (refine qS ?_; constructor)))
  · rw [orE, if_neg h0, if_neg h0]
    refine pi2 fn78 ?_
    (repeat' first | (refine Owe.same ?_; first | refine Owe.o ?_ | refine Owe.mk ?_ ?_) | (refine Fork.same ?_; (first | refine fkD ?_ ?_ | refine fkN ?_ ?_ | refine fkM ?_ ?_) <;> intro h) | ((first | refine OpsL.same ?_ | refine OpsDL.same ?_); first | refine oK c1 rfl rfl rfl ?_) | refine MvQ.stay ?_)
    · (refine rqK rfl ?_; (repeat' first | exact rfl | (refine qS ?_; constructor)))
    · exact absurd h h0
/-- The error of a set of readings; by how much they are apart. -/
abbrev inI (n : Nat) (a : Int) : Prop := 0 ≤ a ∧ a ≤ (n : Int) - 1
def stI (n : Nat) : List Int → Int
  | [a] => if inI n a then 0 else 6
  | [a, b] => if inI n a then (if inI n b then (if b ≤ a then 9 else 0) else 6) else 6
  | _ => 10
def apS (L : Ln) (r : List Lk) : List Int → Int
  | [a] => ap1 L (rd r a.toNat)
  | [a, b] => ap2 L (rd r a.toNat) (rd r b.toNat)
  | _ => 0
theorem stI_long {n : Nat} {s : List Int} (h : s.length ≠ 1 ∧ s.length ≠ 2) : stI n s = 10 := by
  match s, h with
  | [], _ => rfl
  | [_], h => exact absurd rfl h.1
  | [_, _], h => exact absurd rfl h.2
  | _ :: _ :: _ :: _, _ => rfl
abbrev setV (L : Ln) (r : List Lk) (s : List Int) : Rg := if stI r.length s = 0 then (if 0 < apS L r s then (apS L r s, 0) else (0, 19)) else (0, stI r.length s)
theorem C83 {x z : Int} {l : List Lk} {b : List Rg} {r : List Lk} {s : List Int} : ((Ln.mk x z l b).Ok ∧ (r.length ≤ 1000000 ∧ s.length ≤ 1000000) ∧ (∀ i, i < r.length → rdOk l.length (rd r i))) →
    PFD Try.prog 83 [.agg [int x, int z, trs l], .c (prs b), .c (trs r), .c (ints s)] (.tup [vi .i64 (setV ⟨x, z, l, b⟩ r s).1, vi .i64 (setV ⟨x, z, l, b⟩ r s).2]) := fun ⟨hL, hr, ho⟩ => by
  by_cases hlen : s.length ≠ 1 ∧ s.length ≠ 2
  · rw [setV, stI_long hlen, if_neg (by decide)]
    refine pi2 fn83 ?_
    (repeat' first | (refine Owe.same ?_; first | refine Owe.o ?_ | refine Owe.mk ?_ ?_) | (refine Fork.same ?_; (first | refine fkY ?_ | refine fkF ?_ | ((first | refine fkD ?_ ?_ | refine fkN ?_ ?_ | refine fkM ?_ ?_) <;> intro h))) | ((first | refine OpsL.same ?_ | refine OpsDL.same ?_); first | refine oK C16 rfl rfl rfl ?_) | refine MvQ.stay ?_)
    all_goals (refine rqK rfl ?_; (repeat' first | exact rfl | (refine qS ?_; constructor)))
  · have hab : (∃ a, s = [a]) ∨ ∃ a c, s = [a, c] := by
      match s, hlen with
      | [], h => exact absurd ⟨by decide, by decide⟩ h
      | [a], _ => exact .inl ⟨a, rfl⟩
      | [a, c], _ => exact .inr ⟨a, c, rfl⟩
      | _ :: _ :: _ :: _, h => exact absurd ⟨by simp, by simp⟩ h
    rcases hab with ⟨a, rfl⟩ | ⟨a, c, rfl⟩
    · have cA := C16 (n := a) (lo := 0) (hi := (r.length : Int) - 1)
      by_cases hA : inI r.length a
      · rw [decide_eq_true hA] at cA
        obtain ⟨i, rfl⟩ : ∃ i : Nat, a = i := ⟨a.toNat, by have := hA.1; omega⟩
        have c1 := C135a (i := i) ⟨hL, hr.1, by omega, ho i (by omega)⟩
        rw [setV, show stI r.length [(i : Int)] = 0 from if_pos hA, if_pos rfl]
        change PFD Try.prog 83 _ (.tup [vi .i64 (if 0 < ap1 ⟨x, z, l, b⟩ (rd r i) then (ap1 ⟨x, z, l, b⟩ (rd r i), 0) else (0, 19)).1, vi .i64 (if 0 < ap1 ⟨x, z, l, b⟩ (rd r i) then (ap1 ⟨x, z, l, b⟩ (rd r i), 0) else (0, 19)).2])
        generalize ap1 ⟨x, z, l, b⟩ (rd r i) = W at *
        refine pi2 fn83 ?_
        (repeat' first | (refine Owe.same ?_; first | refine Owe.o ?_ | refine Owe.mk ?_ ?_) | (refine Fork.same ?_; (first | refine fkY ?_ | refine fkF ?_ | ((first | refine fkD ?_ ?_ | refine fkN ?_ ?_ | refine fkM ?_ ?_) <;> intro h))) | ((first | refine OpsL.same ?_ | refine OpsDL.same ?_); first | refine oK C16 rfl rfl rfl ?_) | refine MvQ.stay ?_)
        refine Sat.lp (fun k : Nat => ⟨[(10, vi .i64 k), (3, .c (ints [(i : Int)])), (2, .c (trs r)), (1, .c (prs b)), (4, .c (.bp 0 0))], [(0, .box [int x, int z, trs l])], 1⟩)
          (fun k => k = 0 ∨ k = 1) (fun k => 1 - k) 0 [0] (.inl rfl) ?_ ?_
        · (refine qis ?_ ?_ <;> (repeat' first | exact rfl | (refine qS ?_; constructor)))
        · intro k hk
          rcases hk with rfl | rfl
          · (repeat' first | (refine Owe.same ?_; first | refine Owe.o ?_ | refine Owe.mk ?_ ?_) | (refine Fork.same ?_; (first | refine fkY ?_ | refine fkF ?_ | ((first | refine fkD ?_ ?_ | refine fkN ?_ ?_ | refine fkM ?_ ?_) <;> intro h))) | ((first | refine OpsL.same ?_ | refine OpsDL.same ?_); first | refine oK cA rfl rfl rfl ?_) | refine MvQ.stay ?_)
            refine again 1 [0] (.inr rfl) (by decide) ?_
            (refine qis ?_ ?_ <;> (repeat' first | exact rfl | (refine qS ?_; constructor)))
          · by_cases hW : 0 < W
            · rw [if_pos hW]
              (repeat' first | (refine Owe.same ?_; first | refine Owe.o ?_ | refine Owe.mk ?_ ?_) | (refine Fork.same ?_; (first | refine fkY ?_ | refine fkF ?_ | ((first | refine fkD ?_ ?_ | refine fkN ?_ ?_ | refine fkM ?_ ?_) <;> intro h))) | ((first | refine OpsL.same ?_ | refine OpsDL.same ?_); first | refine oK c1 rfl rfl rfl ?_) | refine MvQ.stay ?_)
              (refine rqK rfl ?_; (repeat' first | exact rfl | (refine qS ?_; constructor)))
            · rw [if_neg hW]
              (repeat' first | (refine Owe.same ?_; first | refine Owe.o ?_ | refine Owe.mk ?_ ?_) | (refine Fork.same ?_; (first | refine fkY ?_ | refine fkF ?_ | ((first | refine fkD ?_ ?_ | refine fkN ?_ ?_ | refine fkM ?_ ?_) <;> intro h))) | ((first | refine OpsL.same ?_ | refine OpsDL.same ?_); first | refine oK c1 rfl rfl rfl ?_) | refine MvQ.stay ?_)
              (refine rqK rfl ?_; (repeat' first | exact rfl | (refine qS ?_; constructor)))
      · rw [decide_eq_false hA] at cA
        rw [setV, show stI r.length [a] = 6 from if_neg hA, if_neg (by decide)]
        refine pi2 fn83 ?_
        (repeat' first | (refine Owe.same ?_; first | refine Owe.o ?_ | refine Owe.mk ?_ ?_) | (refine Fork.same ?_; (first | refine fkY ?_ | refine fkF ?_ | ((first | refine fkD ?_ ?_ | refine fkN ?_ ?_ | refine fkM ?_ ?_) <;> intro h))) | ((first | refine OpsL.same ?_ | refine OpsDL.same ?_); first | refine oK C16 rfl rfl rfl ?_) | refine MvQ.stay ?_)
        refine Sat.lp (fun k : Nat => ⟨[(10, vi .i64 k), (3, .c (ints [a])), (2, .c (trs r)), (1, .c (prs b)), (4, .c (.bp 0 0))], [(0, .box [int x, int z, trs l])], 1⟩)
          (fun k => k = 0) (fun k => 1 - k) 0 [0] rfl ?_ ?_
        · (refine qis ?_ ?_ <;> (repeat' first | exact rfl | (refine qS ?_; constructor)))
        · intro k hk
          subst hk
          (repeat' first | (refine Owe.same ?_; first | refine Owe.o ?_ | refine Owe.mk ?_ ?_) | (refine Fork.same ?_; (first | refine fkY ?_ | refine fkF ?_ | ((first | refine fkD ?_ ?_ | refine fkN ?_ ?_ | refine fkM ?_ ?_) <;> intro h))) | ((first | refine OpsL.same ?_ | refine OpsDL.same ?_); first | refine oK cA rfl rfl rfl ?_) | refine MvQ.stay ?_)
          (refine rqK rfl ?_; (repeat' first | exact rfl | (refine qS ?_; constructor)))
    · have cA := C16 (n := a) (lo := 0) (hi := (r.length : Int) - 1)
      have cC := C16 (n := c) (lo := 0) (hi := (r.length : Int) - 1)
      by_cases hA : inI r.length a
      · rw [decide_eq_true hA] at cA
        by_cases hC : inI r.length c
        · rw [decide_eq_true hC] at cC
          by_cases hac : c ≤ a
          · rw [setV, show stI r.length [a, c] = 9 from (if_pos hA).trans ((if_pos hC).trans (if_pos hac)), if_neg (by decide)]
            refine pi2 fn83 ?_
            (repeat' first | (refine Owe.same ?_; first | refine Owe.o ?_ | refine Owe.mk ?_ ?_) | (refine Fork.same ?_; (first | refine fkY ?_ | refine fkF ?_ | ((first | refine fkD ?_ ?_ | refine fkN ?_ ?_ | refine fkM ?_ ?_) <;> intro h))) | ((first | refine OpsL.same ?_ | refine OpsDL.same ?_); first | refine oK C16 rfl rfl rfl ?_) | refine MvQ.stay ?_)
            refine Sat.lp (fun k : Nat => ⟨[(10, vi .i64 k), (3, .c (ints [a, c])), (2, .c (trs r)), (1, .c (prs b)), (4, .c (.bp 0 0))], [(0, .box [int x, int z, trs l])], 1⟩)
              (fun k => k = 0 ∨ k = 1) (fun k => 1 - k) 0 [0] (.inl rfl) ?_ ?_
            · (refine qis ?_ ?_ <;> (repeat' first | exact rfl | (refine qS ?_; constructor)))
            · intro k hk
              rcases hk with rfl | rfl
              · (repeat' first | (refine Owe.same ?_; first | refine Owe.o ?_ | refine Owe.mk ?_ ?_) | (refine Fork.same ?_; (first | refine fkY ?_ | refine fkF ?_ | ((first | refine fkD ?_ ?_ | refine fkN ?_ ?_ | refine fkM ?_ ?_) <;> intro h))) | ((first | refine OpsL.same ?_ | refine OpsDL.same ?_); first | refine oK cA rfl rfl rfl ?_) | refine MvQ.stay ?_)
                refine again 1 [0] (.inr rfl) (by decide) ?_
                (refine qis ?_ ?_ <;> (repeat' first | exact rfl | (refine qS ?_; constructor)))
              · (repeat' first | (refine Owe.same ?_; first | refine Owe.o ?_ | refine Owe.mk ?_ ?_) | (refine Fork.same ?_; (first | refine fkY ?_ | refine fkF ?_ | ((first | refine fkD ?_ ?_ | refine fkN ?_ ?_ | refine fkM ?_ ?_) <;> intro h))) | ((first | refine OpsL.same ?_ | refine OpsDL.same ?_); first | refine oK cC rfl rfl rfl ?_) | refine MvQ.stay ?_)
                · (refine rqK rfl ?_; (repeat' first | exact rfl | (refine qS ?_; constructor)))
                · exact (h hac).elim
          · obtain ⟨i, rfl⟩ : ∃ i : Nat, a = i := ⟨a.toNat, by have := hA.1; omega⟩
            obtain ⟨j, rfl⟩ : ∃ j : Nat, c = j := ⟨c.toNat, by have := hC.1; omega⟩
            have c1 := C135b (i := i) (k := j) ⟨hL, hr.1, ⟨by omega, ho i (by omega)⟩, ⟨by omega, ho j (by omega)⟩⟩
            rw [setV, show stI r.length [(i : Int), (j : Int)] = 0 from (if_pos hA).trans ((if_pos hC).trans (if_neg hac)), if_pos rfl]
            change PFD Try.prog 83 _ (.tup [vi .i64 (if 0 < ap2 ⟨x, z, l, b⟩ (rd r i) (rd r j) then (ap2 ⟨x, z, l, b⟩ (rd r i) (rd r j), 0) else (0, 19)).1, vi .i64 (if 0 < ap2 ⟨x, z, l, b⟩ (rd r i) (rd r j) then (ap2 ⟨x, z, l, b⟩ (rd r i) (rd r j), 0) else (0, 19)).2])
            generalize ap2 ⟨x, z, l, b⟩ (rd r i) (rd r j) = W at *
            refine pi2 fn83 ?_
            (repeat' first | (refine Owe.same ?_; first | refine Owe.o ?_ | refine Owe.mk ?_ ?_) | (refine Fork.same ?_; (first | refine fkY ?_ | refine fkF ?_ | ((first | refine fkD ?_ ?_ | refine fkN ?_ ?_ | refine fkM ?_ ?_) <;> intro h))) | ((first | refine OpsL.same ?_ | refine OpsDL.same ?_); first | refine oK C16 rfl rfl rfl ?_) | refine MvQ.stay ?_)
            refine Sat.lp (fun k : Nat => ⟨[(10, vi .i64 k), (3, .c (ints [(i : Int), (j : Int)])), (2, .c (trs r)), (1, .c (prs b)), (4, .c (.bp 0 0))], [(0, .box [int x, int z, trs l])], 1⟩)
              (fun k => k = 0 ∨ k = 1 ∨ k = 2) (fun k => 2 - k) 0 [0] (.inl rfl) ?_ ?_
            · (refine qis ?_ ?_ <;> (repeat' first | exact rfl | (refine qS ?_; constructor)))
            · intro k hk
              rcases hk with rfl | rfl | rfl
              · (repeat' first | (refine Owe.same ?_; first | refine Owe.o ?_ | refine Owe.mk ?_ ?_) | (refine Fork.same ?_; (first | refine fkY ?_ | refine fkF ?_ | ((first | refine fkD ?_ ?_ | refine fkN ?_ ?_ | refine fkM ?_ ?_) <;> intro h))) | ((first | refine OpsL.same ?_ | refine OpsDL.same ?_); first | refine oK cA rfl rfl rfl ?_) | refine MvQ.stay ?_)
                refine again 1 [0] (.inr (.inl rfl)) (by decide) ?_
                (refine qis ?_ ?_ <;> (repeat' first | exact rfl | (refine qS ?_; constructor)))
              · (repeat' first | (refine Owe.same ?_; first | refine Owe.o ?_ | refine Owe.mk ?_ ?_) | (refine Fork.same ?_; (first | refine fkY ?_ | refine fkF ?_ | ((first | refine fkD ?_ ?_ | refine fkN ?_ ?_ | refine fkM ?_ ?_) <;> intro h))) | ((first | refine OpsL.same ?_ | refine OpsDL.same ?_); first | refine oK cC rfl rfl rfl ?_) | refine MvQ.stay ?_)
                · exact (hac h).elim
                · refine again 2 [0] (.inr (.inr rfl)) (by decide) ?_
                  (refine qis ?_ ?_ <;> (repeat' first | exact rfl | (refine qS ?_; constructor)))
              · by_cases hW : 0 < W
                · rw [if_pos hW]
                  (repeat' first | (refine Owe.same ?_; first | refine Owe.o ?_ | refine Owe.mk ?_ ?_) | (refine Fork.same ?_; (first | refine fkY ?_ | refine fkF ?_ | ((first | refine fkD ?_ ?_ | refine fkN ?_ ?_ | refine fkM ?_ ?_) <;> intro h))) | ((first | refine OpsL.same ?_ | refine OpsDL.same ?_); first | refine oK c1 rfl rfl rfl ?_) | refine MvQ.stay ?_)
                  (refine rqK rfl ?_; (repeat' first | exact rfl | (refine qS ?_; constructor)))
                · rw [if_neg hW]
                  (repeat' first | (refine Owe.same ?_; first | refine Owe.o ?_ | refine Owe.mk ?_ ?_) | (refine Fork.same ?_; (first | refine fkY ?_ | refine fkF ?_ | ((first | refine fkD ?_ ?_ | refine fkN ?_ ?_ | refine fkM ?_ ?_) <;> intro h))) | ((first | refine OpsL.same ?_ | refine OpsDL.same ?_); first | refine oK c1 rfl rfl rfl ?_) | refine MvQ.stay ?_)
                  (refine rqK rfl ?_; (repeat' first | exact rfl | (refine qS ?_; constructor)))
        · rw [decide_eq_false hC] at cC
          rw [setV, show stI r.length [a, c] = 6 from (if_pos hA).trans (if_neg hC), if_neg (by decide)]
          refine pi2 fn83 ?_
          (repeat' first | (refine Owe.same ?_; first | refine Owe.o ?_ | refine Owe.mk ?_ ?_) | (refine Fork.same ?_; (first | refine fkY ?_ | refine fkF ?_ | ((first | refine fkD ?_ ?_ | refine fkN ?_ ?_ | refine fkM ?_ ?_) <;> intro h))) | ((first | refine OpsL.same ?_ | refine OpsDL.same ?_); first | refine oK C16 rfl rfl rfl ?_) | refine MvQ.stay ?_)
          refine Sat.lp (fun k : Nat => ⟨[(10, vi .i64 k), (3, .c (ints [a, c])), (2, .c (trs r)), (1, .c (prs b)), (4, .c (.bp 0 0))], [(0, .box [int x, int z, trs l])], 1⟩)
            (fun k => k = 0 ∨ k = 1) (fun k => 1 - k) 0 [0] (.inl rfl) ?_ ?_
          · (refine qis ?_ ?_ <;> (repeat' first | exact rfl | (refine qS ?_; constructor)))
          · intro k hk
            rcases hk with rfl | rfl
            · (repeat' first | (refine Owe.same ?_; first | refine Owe.o ?_ | refine Owe.mk ?_ ?_) | (refine Fork.same ?_; (first | refine fkY ?_ | refine fkF ?_ | ((first | refine fkD ?_ ?_ | refine fkN ?_ ?_ | refine fkM ?_ ?_) <;> intro h))) | ((first | refine OpsL.same ?_ | refine OpsDL.same ?_); first | refine oK cA rfl rfl rfl ?_) | refine MvQ.stay ?_)
              refine again 1 [0] (.inr rfl) (by decide) ?_
              (refine qis ?_ ?_ <;> (repeat' first | exact rfl | (refine qS ?_; constructor)))
            · (repeat' first | (refine Owe.same ?_; first | refine Owe.o ?_ | refine Owe.mk ?_ ?_) | (refine Fork.same ?_; (first | refine fkY ?_ | refine fkF ?_ | ((first | refine fkD ?_ ?_ | refine fkN ?_ ?_ | refine fkM ?_ ?_) <;> intro h))) | ((first | refine OpsL.same ?_ | refine OpsDL.same ?_); first | refine oK cC rfl rfl rfl ?_) | refine MvQ.stay ?_)
              (refine rqK rfl ?_; (repeat' first | exact rfl | (refine qS ?_; constructor)))
      · rw [decide_eq_false hA] at cA
        rw [setV, show stI r.length [a, c] = 6 from if_neg hA, if_neg (by decide)]
        refine pi2 fn83 ?_
        (repeat' first | (refine Owe.same ?_; first | refine Owe.o ?_ | refine Owe.mk ?_ ?_) | (refine Fork.same ?_; (first | refine fkY ?_ | refine fkF ?_ | ((first | refine fkD ?_ ?_ | refine fkN ?_ ?_ | refine fkM ?_ ?_) <;> intro h))) | ((first | refine OpsL.same ?_ | refine OpsDL.same ?_); first | refine oK C16 rfl rfl rfl ?_) | refine MvQ.stay ?_)
        refine Sat.lp (fun k : Nat => ⟨[(10, vi .i64 k), (3, .c (ints [a, c])), (2, .c (trs r)), (1, .c (prs b)), (4, .c (.bp 0 0))], [(0, .box [int x, int z, trs l])], 1⟩)
          (fun k => k = 0) (fun k => 1 - k) 0 [0] rfl ?_ ?_
        · (refine qis ?_ ?_ <;> (repeat' first | exact rfl | (refine qS ?_; constructor)))
        · intro k hk
          subst hk
          (repeat' first | (refine Owe.same ?_; first | refine Owe.o ?_ | refine Owe.mk ?_ ?_) | (refine Fork.same ?_; (first | refine fkY ?_ | refine fkF ?_ | ((first | refine fkD ?_ ?_ | refine fkN ?_ ?_ | refine fkM ?_ ?_) <;> intro h))) | ((first | refine OpsL.same ?_ | refine OpsDL.same ?_); first | refine oK cA rfl rfl rfl ?_) | refine MvQ.stay ?_)
          (refine rqK rfl ?_; (repeat' first | exact rfl | (refine qS ?_; constructor)))
end Go.Pw

set_option linter.unusedSimpArgs false
set_option linter.unusedVariables false
namespace Go.Pw
set_option maxRecDepth 2000
open Go Go.Proofs A1 A2 A3 A4
abbrev ckV (x z : Int) (l : List Lk) (b : List Rg) (r : List Lk) (s : List Int) : Rg := if opR x z l b r = 0 then setV ⟨x, z, l, b⟩ r s else (0, opR x z l b r)
set_option maxHeartbeats 8000000 in
theorem C80 {x z : Int} {l : List Lk} {b : List Rg} {r : List Lk} {s : List Int} : ((l.length ≤ 1000000 ∧ b.length ≤ 1000000 ∧ r.length ≤ 1000000) ∧ s.length ≤ 1000000) →
    PFD Try.prog 80 [.agg [int x, int z, trs l], .c (prs b), .c (trs r), .c (ints s)] (.tup [vi .i64 (ckV x z l b r s).1, vi .i64 (ckV x z l b r s).2]) := fun ⟨hl, hsl⟩ => by
  have c1 := C129 (x := x) (z := z) hl
  have c104 := C104 (n := (s.length : Int)) (lo := 1) (hi := 2)
  by_cases h0 : opR x z l b r = 0
  · obtain ⟨hL, hr, ho⟩ := opR_ok h0
    rw [h0] at c1
    change PFD Try.prog 129 _ (.tup [.agg [int x, int z, trs l, prs b], vi .i64 0]) at c1
    rw [ckV, if_pos h0]
    by_cases hlen : s.length ≠ 1 ∧ s.length ≠ 2
    · rw [decide_eq_false (by omega)] at c104
      rw [setV, stI_long hlen, if_neg (by decide)]
      refine pi2 fn80 ?_
      (repeat' first | (refine Owe.same ?_; first | refine Owe.o ?_ | refine Owe.mk ?_ ?_) | (refine Fork.same ?_; (first | refine fkD ?_ ?_ | refine fkN ?_ ?_ | refine fkM ?_ ?_) <;> intro h) | ((first | refine OpsL.same ?_ | refine OpsDL.same ?_); first | refine oK c1 rfl rfl rfl ?_ | refine oK c104 rfl rfl rfl ?_ | refine oK C91 rfl rfl rfl ?_) | refine MvQ.stay ?_)
      (repeat' first | (refine Owe.same ?_; first | refine Owe.o ?_ | refine Owe.mk ?_ ?_) | (refine Fork.same ?_; (first | refine fkD ?_ ?_ | refine fkN ?_ ?_ | refine fkM ?_ ?_) <;> intro h) | ((first | refine OpsL.same ?_ | refine OpsDL.same ?_); first | refine pK C90 rfl rfl ?_) | refine MvQ.stay ?_)
      · (refine rqK rfl ?_; (repeat' first | exact rfl | (refine qS ?_; constructor)))
      · exact absurd h (by decide)
    · rw [decide_eq_true (by omega)] at c104
      have hab : (∃ a, s = [a]) ∨ ∃ a c, s = [a, c] := by
        match s, hlen with
        | [], h => exact absurd ⟨by decide, by decide⟩ h
        | [a], _ => exact .inl ⟨a, rfl⟩
        | [a, c], _ => exact .inr ⟨a, c, rfl⟩
        | _ :: _ :: _ :: _, h => exact absurd ⟨by simp, by simp⟩ h
      rcases hab with ⟨a, rfl⟩ | ⟨a, c, rfl⟩
      · have cA := C104 (n := a) (lo := 0) (hi := (r.length : Int) - 1)
        by_cases hA : inI r.length a
        · rw [decide_eq_true hA] at cA
          obtain ⟨i, rfl⟩ : ∃ i : Nat, a = i := ⟨a.toNat, by have := hA.1; omega⟩
          have c2 := C132 (o := rd r i) ⟨hL, ho i (by omega)⟩
          rw [setV, show stI r.length [(i : Int)] = 0 from if_pos hA, if_pos rfl]
          change PFD Try.prog 80 _ (.tup [vi .i64 (if 0 < ap1 ⟨x, z, l, b⟩ (rd r i) then (ap1 ⟨x, z, l, b⟩ (rd r i), 0) else (0, 19)).1, vi .i64 (if 0 < ap1 ⟨x, z, l, b⟩ (rd r i) then (ap1 ⟨x, z, l, b⟩ (rd r i), 0) else (0, 19)).2])
          change PFD Try.prog 132 [.agg [int x, int z, trs l, prs b], _] _ at c2
          generalize ap1 ⟨x, z, l, b⟩ (rd r i) = W at *
          refine pi2 fn80 ?_
          (repeat' first | (refine Owe.same ?_; first | refine Owe.o ?_ | refine Owe.mk ?_ ?_) | (refine Fork.same ?_; (first | refine fkD ?_ ?_ | refine fkN ?_ ?_ | refine fkM ?_ ?_) <;> intro h) | ((first | refine OpsL.same ?_ | refine OpsDL.same ?_); first | refine oK c1 rfl rfl rfl ?_ | refine oK c104 rfl rfl rfl ?_ | refine oK C91 rfl rfl rfl ?_) | refine MvQ.stay ?_)
          (repeat' first | (refine Owe.same ?_; first | refine Owe.o ?_ | refine Owe.mk ?_ ?_) | (refine Fork.same ?_; (first | refine fkD ?_ ?_ | refine fkN ?_ ?_ | refine fkM ?_ ?_) <;> intro h) | ((first | refine OpsL.same ?_ | refine OpsDL.same ?_); first | refine pK C90 rfl rfl ?_) | refine MvQ.stay ?_)
          · exact absurd h (by decide)
          refine Ops.cs rfl rfl (CallS.of fn102 rfl ?_)
          (repeat' first | (refine Owe.same ?_; first | refine Owe.o ?_ | refine Owe.mk ?_ ?_) | (refine Fork.same ?_; (first | refine fkD ?_ ?_ | refine fkN ?_ ?_ | refine fkM ?_ ?_) <;> intro h) | refine MvQ.stay ?_)
          refine Sat.lp (fun k : Nat => ⟨[(11, vi .i64 k), (10, vi .i64 1), (9, .c (ints [(i : Int)])), (1, .c (.fn 134 [1, 3])), (0, .c (ints [(i : Int)]))], [(3, .box [int (if k = 0 then -1 else (i : Int))]), (2, .box [int x, int z, trs l, prs b]), (1, .box [trs r]), (0, .box [int x, int z, trs l])], 4⟩)
            (fun k => k = 0 ∨ k = 1) (fun k => 1 - k) 0 [] (.inl rfl) ?_ ?_
          · (refine qis ?_ ?_ <;> (repeat' first | exact rfl | (refine qS ?_; constructor)))
          · intro k hk
            rcases hk with rfl | rfl
            · (repeat' first | (refine Owe.same ?_; first | refine Owe.o ?_ | refine Owe.mk ?_ ?_) | (refine Fork.same ?_; (first | refine fkY ?_ | refine fkF ?_ | ((first | refine fkD ?_ ?_ | refine fkN ?_ ?_ | refine fkM ?_ ?_) <;> intro h))) | ((first | refine OpsL.same ?_ | refine OpsDL.same ?_); first | refine oK c1 rfl rfl rfl ?_) | refine MvQ.stay ?_)
              refine Ops.cs rfl rfl (CallS.of fn134 rfl ?_)
              have c90 := C90 (l := [unb true 6, unb (decide ((-1 : Int) < i)) 9]) (by simp)
              rw [decide_eq_true (show (-1 : Int) < i by omega), show fstE [unb true 6, unb true 9] = 0 from rfl] at c90
              (repeat' first | (refine Owe.same ?_; first | refine Owe.o ?_ | refine Owe.mk ?_ ?_) | (refine Fork.same ?_; (first | refine fkY ?_ | refine fkF ?_ | ((first | refine fkD ?_ ?_ | refine fkN ?_ ?_ | refine fkM ?_ ?_) <;> intro h))) | ((first | refine OpsL.same ?_ | refine OpsDL.same ?_); first | refine oK cA rfl rfl rfl ?_ | refine oK C91 rfl rfl rfl ?_) | refine MvQ.stay ?_)
              (repeat' first | (refine Owe.same ?_; first | refine Owe.o ?_ | refine Owe.mk ?_ ?_) | (refine Fork.same ?_; (first | refine fkY ?_ | refine fkF ?_ | ((first | refine fkD ?_ ?_ | refine fkN ?_ ?_ | refine fkM ?_ ?_) <;> intro h))) | ((first | refine OpsL.same ?_ | refine OpsDL.same ?_); first | refine pK c90 rfl rfl ?_) | refine MvQ.stay ?_)
              refine again 1 [] (Or.inr rfl) (by decide) ?_
              (refine qis ?_ ?_ <;> (repeat' first | exact rfl | (refine qS ?_; constructor)))
            · (repeat' first | (refine Owe.same ?_; first | refine Owe.o ?_ | refine Owe.mk ?_ ?_) | (refine Fork.same ?_; (first | refine fkY ?_ | refine fkF ?_ | ((first | refine fkD ?_ ?_ | refine fkN ?_ ?_ | refine fkM ?_ ?_) <;> intro h))) | ((first | refine OpsL.same ?_ | refine OpsDL.same ?_); first | refine oK c2 rfl rfl rfl ?_ | refine oK C91 rfl rfl rfl ?_) | refine MvQ.stay ?_)
              · change ((0 : Int) ≤ 0 ∧ (0 : Int) < ((1 : Nat) : Int)) ∧ 0 ≤ (i : Int) ∧ (i : Int) < r.length
                omega
              · by_cases hW : 0 < W
                · rw [if_pos hW]
                  (refine rqK rfl ?_; (repeat' first | exact rfl | (refine qS ?_; constructor)))
                  · omega
                  · rw [decide_eq_true (by omega)]; rfl
                · rw [if_neg hW]
                  (refine rqK rfl ?_; (repeat' first | exact rfl | (refine qS ?_; constructor)))
                  · omega
                  · rw [decide_eq_false (by omega)]; rfl
        · rw [decide_eq_false hA] at cA
          rw [setV, show stI r.length [a] = 6 from if_neg hA, if_neg (by decide)]
          refine pi2 fn80 ?_
          (repeat' first | (refine Owe.same ?_; first | refine Owe.o ?_ | refine Owe.mk ?_ ?_) | (refine Fork.same ?_; (first | refine fkD ?_ ?_ | refine fkN ?_ ?_ | refine fkM ?_ ?_) <;> intro h) | ((first | refine OpsL.same ?_ | refine OpsDL.same ?_); first | refine oK c1 rfl rfl rfl ?_ | refine oK c104 rfl rfl rfl ?_ | refine oK C91 rfl rfl rfl ?_) | refine MvQ.stay ?_)
          (repeat' first | (refine Owe.same ?_; first | refine Owe.o ?_ | refine Owe.mk ?_ ?_) | (refine Fork.same ?_; (first | refine fkD ?_ ?_ | refine fkN ?_ ?_ | refine fkM ?_ ?_) <;> intro h) | ((first | refine OpsL.same ?_ | refine OpsDL.same ?_); first | refine pK C90 rfl rfl ?_) | refine MvQ.stay ?_)
          · exact absurd h (by decide)
          refine Ops.cs rfl rfl (CallS.of fn102 rfl ?_)
          (repeat' first | (refine Owe.same ?_; first | refine Owe.o ?_ | refine Owe.mk ?_ ?_) | (refine Fork.same ?_; (first | refine fkD ?_ ?_ | refine fkN ?_ ?_ | refine fkM ?_ ?_) <;> intro h) | refine MvQ.stay ?_)
          refine Sat.lp (fun k : Nat => ⟨[(11, vi .i64 k), (10, vi .i64 1), (9, .c (ints [a])), (1, .c (.fn 134 [1, 3])), (0, .c (ints [a]))], [(3, .box [int (-1)]), (2, .box [int x, int z, trs l, prs b]), (1, .box [trs r]), (0, .box [int x, int z, trs l])], 4⟩)
            (fun k => k = 0) (fun k => 1 - k) 0 [] rfl ?_ ?_
          · (refine qis ?_ ?_ <;> (repeat' first | exact rfl | (refine qS ?_; constructor)))
          · intro k hk
            subst hk
            (repeat' first | (refine Owe.same ?_; first | refine Owe.o ?_ | refine Owe.mk ?_ ?_) | (refine Fork.same ?_; (first | refine fkY ?_ | refine fkF ?_ | ((first | refine fkD ?_ ?_ | refine fkN ?_ ?_ | refine fkM ?_ ?_) <;> intro h))) | ((first | refine OpsL.same ?_ | refine OpsDL.same ?_); first | refine oK c1 rfl rfl rfl ?_) | refine MvQ.stay ?_)
            refine Ops.cs rfl rfl (CallS.of fn134 rfl ?_)
            have c90 := C90 (l := [unb false 6, unb (decide ((-1 : Int) < a)) 9]) (by simp)
            rw [show fstE [unb false 6, unb (decide ((-1 : Int) < a)) 9] = 6 from rfl] at c90
            (repeat' first | (refine Owe.same ?_; first | refine Owe.o ?_ | refine Owe.mk ?_ ?_) | (refine Fork.same ?_; (first | refine fkY ?_ | refine fkF ?_ | ((first | refine fkD ?_ ?_ | refine fkN ?_ ?_ | refine fkM ?_ ?_) <;> intro h))) | ((first | refine OpsL.same ?_ | refine OpsDL.same ?_); first | refine oK cA rfl rfl rfl ?_ | refine oK C91 rfl rfl rfl ?_) | refine MvQ.stay ?_)
            (repeat' first | (refine Owe.same ?_; first | refine Owe.o ?_ | refine Owe.mk ?_ ?_) | (refine Fork.same ?_; (first | refine fkY ?_ | refine fkF ?_ | ((first | refine fkD ?_ ?_ | refine fkN ?_ ?_ | refine fkM ?_ ?_) <;> intro h))) | ((first | refine OpsL.same ?_ | refine OpsDL.same ?_); first | refine pK c90 rfl rfl ?_) | refine MvQ.stay ?_)
            (refine rqK rfl ?_; (repeat' first | exact rfl | (refine qS ?_; constructor)))
      · have cA := C104 (n := a) (lo := 0) (hi := (r.length : Int) - 1)
        have cC := C104 (n := c) (lo := 0) (hi := (r.length : Int) - 1)
        by_cases hA : inI r.length a
        · rw [decide_eq_true hA] at cA
          by_cases hC : inI r.length c
          · rw [decide_eq_true hC] at cC
            by_cases hac : c ≤ a
            · rw [setV, show stI r.length [a, c] = 9 from (if_pos hA).trans ((if_pos hC).trans (if_pos hac)), if_neg (by decide)]
              refine pi2 fn80 ?_
              (repeat' first | (refine Owe.same ?_; first | refine Owe.o ?_ | refine Owe.mk ?_ ?_) | (refine Fork.same ?_; (first | refine fkD ?_ ?_ | refine fkN ?_ ?_ | refine fkM ?_ ?_) <;> intro h) | ((first | refine OpsL.same ?_ | refine OpsDL.same ?_); first | refine oK c1 rfl rfl rfl ?_ | refine oK c104 rfl rfl rfl ?_ | refine oK C91 rfl rfl rfl ?_) | refine MvQ.stay ?_)
              (repeat' first | (refine Owe.same ?_; first | refine Owe.o ?_ | refine Owe.mk ?_ ?_) | (refine Fork.same ?_; (first | refine fkD ?_ ?_ | refine fkN ?_ ?_ | refine fkM ?_ ?_) <;> intro h) | ((first | refine OpsL.same ?_ | refine OpsDL.same ?_); first | refine pK C90 rfl rfl ?_) | refine MvQ.stay ?_)
              · exact absurd h (by decide)
              refine Ops.cs rfl rfl (CallS.of fn102 rfl ?_)
              (repeat' first | (refine Owe.same ?_; first | refine Owe.o ?_ | refine Owe.mk ?_ ?_) | (refine Fork.same ?_; (first | refine fkD ?_ ?_ | refine fkN ?_ ?_ | refine fkM ?_ ?_) <;> intro h) | refine MvQ.stay ?_)
              refine Sat.lp (fun k : Nat => ⟨[(11, vi .i64 k), (10, vi .i64 2), (9, .c (ints [a, c])), (1, .c (.fn 134 [1, 3])), (0, .c (ints [a, c]))], [(3, .box [int (if k = 0 then -1 else a)]), (2, .box [int x, int z, trs l, prs b]), (1, .box [trs r]), (0, .box [int x, int z, trs l])], 4⟩)
                (fun k => k = 0 ∨ k = 1) (fun k => 1 - k) 0 [] (.inl rfl) ?_ ?_
              · (refine qis ?_ ?_ <;> (repeat' first | exact rfl | (refine qS ?_; constructor)))
              · intro k hk
                rcases hk with rfl | rfl
                · (repeat' first | (refine Owe.same ?_; first | refine Owe.o ?_ | refine Owe.mk ?_ ?_) | (refine Fork.same ?_; (first | refine fkY ?_ | refine fkF ?_ | ((first | refine fkD ?_ ?_ | refine fkN ?_ ?_ | refine fkM ?_ ?_) <;> intro h))) | ((first | refine OpsL.same ?_ | refine OpsDL.same ?_); first | refine oK c1 rfl rfl rfl ?_) | refine MvQ.stay ?_)
                  refine Ops.cs rfl rfl (CallS.of fn134 rfl ?_)
                  have c90 := C90 (l := [unb true 6, unb (decide ((-1 : Int) < a)) 9]) (by simp)
                  rw [show fstE [unb true 6, unb (decide ((-1 : Int) < a)) 9] = 0 by rw [decide_eq_true (by have := hA.1; omega)]; rfl] at c90
                  (repeat' first | (refine Owe.same ?_; first | refine Owe.o ?_ | refine Owe.mk ?_ ?_) | (refine Fork.same ?_; (first | refine fkY ?_ | refine fkF ?_ | ((first | refine fkD ?_ ?_ | refine fkN ?_ ?_ | refine fkM ?_ ?_) <;> intro h))) | ((first | refine OpsL.same ?_ | refine OpsDL.same ?_); first | refine oK cA rfl rfl rfl ?_ | refine oK C91 rfl rfl rfl ?_) | refine MvQ.stay ?_)
                  (repeat' first | (refine Owe.same ?_; first | refine Owe.o ?_ | refine Owe.mk ?_ ?_) | (refine Fork.same ?_; (first | refine fkY ?_ | refine fkF ?_ | ((first | refine fkD ?_ ?_ | refine fkN ?_ ?_ | refine fkM ?_ ?_) <;> intro h))) | ((first | refine OpsL.same ?_ | refine OpsDL.same ?_); first | refine pK c90 rfl rfl ?_) | refine MvQ.stay ?_)
                  refine again 1 [] (Or.inr rfl) (by decide) ?_
                  (refine qis ?_ ?_ <;> (repeat' first | exact rfl | (refine qS ?_; constructor)))
                · (repeat' first | (refine Owe.same ?_; first | refine Owe.o ?_ | refine Owe.mk ?_ ?_) | (refine Fork.same ?_; (first | refine fkY ?_ | refine fkF ?_ | ((first | refine fkD ?_ ?_ | refine fkN ?_ ?_ | refine fkM ?_ ?_) <;> intro h))) | ((first | refine OpsL.same ?_ | refine OpsDL.same ?_); first | refine oK c1 rfl rfl rfl ?_) | refine MvQ.stay ?_)
                  refine Ops.cs rfl rfl (CallS.of fn134 rfl ?_)
                  have c90 := C90 (l := [unb true 6, unb (decide (a < c)) 9]) (by simp)
                  rw [show fstE [unb true 6, unb (decide (a < c)) 9] = 9 by rw [decide_eq_false (by omega)]; rfl] at c90
                  (repeat' first | (refine Owe.same ?_; first | refine Owe.o ?_ | refine Owe.mk ?_ ?_) | (refine Fork.same ?_; (first | refine fkY ?_ | refine fkF ?_ | ((first | refine fkD ?_ ?_ | refine fkN ?_ ?_ | refine fkM ?_ ?_) <;> intro h))) | ((first | refine OpsL.same ?_ | refine OpsDL.same ?_); first | refine oK cC rfl rfl rfl ?_ | refine oK C91 rfl rfl rfl ?_) | refine MvQ.stay ?_)
                  (repeat' first | (refine Owe.same ?_; first | refine Owe.o ?_ | refine Owe.mk ?_ ?_) | (refine Fork.same ?_; (first | refine fkY ?_ | refine fkF ?_ | ((first | refine fkD ?_ ?_ | refine fkN ?_ ?_ | refine fkM ?_ ?_) <;> intro h))) | ((first | refine OpsL.same ?_ | refine OpsDL.same ?_); first | refine pK c90 rfl rfl ?_) | refine MvQ.stay ?_)
                  (refine rqK rfl ?_; (repeat' first | exact rfl | (refine qS ?_; constructor)))
            · obtain ⟨i, rfl⟩ : ∃ i : Nat, a = i := ⟨a.toNat, by have := hA.1; omega⟩
              obtain ⟨j, rfl⟩ : ∃ j : Nat, c = j := ⟨c.toNat, by have := hC.1; omega⟩
              have c2 := C133 (a := rd r i) (b := rd r j) ⟨hL, ho i (by omega), ho j (by omega)⟩
              rw [setV, show stI r.length [(i : Int), (j : Int)] = 0 from (if_pos hA).trans ((if_pos hC).trans (if_neg hac)), if_pos rfl]
              change PFD Try.prog 80 _ (.tup [vi .i64 (if 0 < ap2 ⟨x, z, l, b⟩ (rd r i) (rd r j) then (ap2 ⟨x, z, l, b⟩ (rd r i) (rd r j), 0) else (0, 19)).1, vi .i64 (if 0 < ap2 ⟨x, z, l, b⟩ (rd r i) (rd r j) then (ap2 ⟨x, z, l, b⟩ (rd r i) (rd r j), 0) else (0, 19)).2])
              change PFD Try.prog 133 [.agg [int x, int z, trs l, prs b], _, _] _ at c2
              generalize ap2 ⟨x, z, l, b⟩ (rd r i) (rd r j) = W at *
              refine pi2 fn80 ?_
              (repeat' first | (refine Owe.same ?_; first | refine Owe.o ?_ | refine Owe.mk ?_ ?_) | (refine Fork.same ?_; (first | refine fkD ?_ ?_ | refine fkN ?_ ?_ | refine fkM ?_ ?_) <;> intro h) | ((first | refine OpsL.same ?_ | refine OpsDL.same ?_); first | refine oK c1 rfl rfl rfl ?_ | refine oK c104 rfl rfl rfl ?_ | refine oK C91 rfl rfl rfl ?_) | refine MvQ.stay ?_)
              (repeat' first | (refine Owe.same ?_; first | refine Owe.o ?_ | refine Owe.mk ?_ ?_) | (refine Fork.same ?_; (first | refine fkD ?_ ?_ | refine fkN ?_ ?_ | refine fkM ?_ ?_) <;> intro h) | ((first | refine OpsL.same ?_ | refine OpsDL.same ?_); first | refine pK C90 rfl rfl ?_) | refine MvQ.stay ?_)
              · exact absurd h (by decide)
              refine Ops.cs rfl rfl (CallS.of fn102 rfl ?_)
              (repeat' first | (refine Owe.same ?_; first | refine Owe.o ?_ | refine Owe.mk ?_ ?_) | (refine Fork.same ?_; (first | refine fkD ?_ ?_ | refine fkN ?_ ?_ | refine fkM ?_ ?_) <;> intro h) | refine MvQ.stay ?_)
              refine Sat.lp (fun k : Nat => ⟨[(11, vi .i64 k), (10, vi .i64 2), (9, .c (ints [(i : Int), (j : Int)])), (1, .c (.fn 134 [1, 3])), (0, .c (ints [(i : Int), (j : Int)]))], [(3, .box [int (if k = 0 then -1 else if k = 1 then (i : Int) else (j : Int))]), (2, .box [int x, int z, trs l, prs b]), (1, .box [trs r]), (0, .box [int x, int z, trs l])], 4⟩)
                (fun k => k = 0 ∨ k = 1 ∨ k = 2) (fun k => 2 - k) 0 [] (.inl rfl) ?_ ?_
              · (refine qis ?_ ?_ <;> (repeat' first | exact rfl | (refine qS ?_; constructor)))
              · intro k hk
                rcases hk with rfl | rfl | rfl
                · (repeat' first | (refine Owe.same ?_; first | refine Owe.o ?_ | refine Owe.mk ?_ ?_) | (refine Fork.same ?_; (first | refine fkY ?_ | refine fkF ?_ | ((first | refine fkD ?_ ?_ | refine fkN ?_ ?_ | refine fkM ?_ ?_) <;> intro h))) | ((first | refine OpsL.same ?_ | refine OpsDL.same ?_); first | refine oK c1 rfl rfl rfl ?_) | refine MvQ.stay ?_)
                  refine Ops.cs rfl rfl (CallS.of fn134 rfl ?_)
                  have c90 := C90 (l := [unb true 6, unb (decide ((-1 : Int) < (i : Int))) 9]) (by simp)
                  rw [show fstE [unb true 6, unb (decide ((-1 : Int) < (i : Int))) 9] = 0 by rw [decide_eq_true (by have := hA.1; omega)]; rfl] at c90
                  (repeat' first | (refine Owe.same ?_; first | refine Owe.o ?_ | refine Owe.mk ?_ ?_) | (refine Fork.same ?_; (first | refine fkY ?_ | refine fkF ?_ | ((first | refine fkD ?_ ?_ | refine fkN ?_ ?_ | refine fkM ?_ ?_) <;> intro h))) | ((first | refine OpsL.same ?_ | refine OpsDL.same ?_); first | refine oK cA rfl rfl rfl ?_ | refine oK C91 rfl rfl rfl ?_) | refine MvQ.stay ?_)
                  (repeat' first | (refine Owe.same ?_; first | refine Owe.o ?_ | refine Owe.mk ?_ ?_) | (refine Fork.same ?_; (first | refine fkY ?_ | refine fkF ?_ | ((first | refine fkD ?_ ?_ | refine fkN ?_ ?_ | refine fkM ?_ ?_) <;> intro h))) | ((first | refine OpsL.same ?_ | refine OpsDL.same ?_); first | refine pK c90 rfl rfl ?_) | refine MvQ.stay ?_)
                  refine again 1 [] (Or.inr (Or.inl rfl)) (by decide) ?_
                  (refine qis ?_ ?_ <;> (repeat' first | exact rfl | (refine qS ?_; constructor)))
                · (repeat' first | (refine Owe.same ?_; first | refine Owe.o ?_ | refine Owe.mk ?_ ?_) | (refine Fork.same ?_; (first | refine fkY ?_ | refine fkF ?_ | ((first | refine fkD ?_ ?_ | refine fkN ?_ ?_ | refine fkM ?_ ?_) <;> intro h))) | ((first | refine OpsL.same ?_ | refine OpsDL.same ?_); first | refine oK c1 rfl rfl rfl ?_) | refine MvQ.stay ?_)
                  refine Ops.cs rfl rfl (CallS.of fn134 rfl ?_)
                  have c90 := C90 (l := [unb true 6, unb (decide ((i : Int) < j)) 9]) (by simp)
                  rw [show fstE [unb true 6, unb (decide ((i : Int) < j)) 9] = 0 by rw [decide_eq_true (by omega)]; rfl] at c90
                  (repeat' first | (refine Owe.same ?_; first | refine Owe.o ?_ | refine Owe.mk ?_ ?_) | (refine Fork.same ?_; (first | refine fkY ?_ | refine fkF ?_ | ((first | refine fkD ?_ ?_ | refine fkN ?_ ?_ | refine fkM ?_ ?_) <;> intro h))) | ((first | refine OpsL.same ?_ | refine OpsDL.same ?_); first | refine oK cC rfl rfl rfl ?_ | refine oK C91 rfl rfl rfl ?_) | refine MvQ.stay ?_)
                  (repeat' first | (refine Owe.same ?_; first | refine Owe.o ?_ | refine Owe.mk ?_ ?_) | (refine Fork.same ?_; (first | refine fkY ?_ | refine fkF ?_ | ((first | refine fkD ?_ ?_ | refine fkN ?_ ?_ | refine fkM ?_ ?_) <;> intro h))) | ((first | refine OpsL.same ?_ | refine OpsDL.same ?_); first | refine pK c90 rfl rfl ?_) | refine MvQ.stay ?_)
                  refine again 2 [] (Or.inr (Or.inr rfl)) (by decide) ?_
                  (refine qis ?_ ?_ <;> (repeat' first | exact rfl | (refine qS ?_; constructor)))
                · (repeat' first | (refine Owe.same ?_; first | refine Owe.o ?_ | refine Owe.mk ?_ ?_) | (refine Fork.same ?_; (first | refine fkY ?_ | refine fkF ?_ | ((first | refine fkD ?_ ?_ | refine fkN ?_ ?_ | refine fkM ?_ ?_) <;> intro h))) | ((first | refine OpsL.same ?_ | refine OpsDL.same ?_); first | refine oK c2 rfl rfl rfl ?_ | refine oK C91 rfl rfl rfl ?_) | refine MvQ.stay ?_)
                  · change ((0 : Int) ≤ 0 ∧ (0 : Int) < ((2 : Nat) : Int)) ∧ 0 ≤ (i : Int) ∧ (i : Int) < r.length
                    omega
                  · change ((0 : Int) ≤ 1 ∧ (1 : Int) < ((2 : Nat) : Int)) ∧ 0 ≤ (j : Int) ∧ (j : Int) < r.length
                    omega
                  · by_cases hW : 0 < W
                    · rw [if_pos hW]
                      (refine rqK rfl ?_; (repeat' first | exact rfl | (refine qS ?_; constructor)))
                      · omega
                      · rw [decide_eq_true (by omega)]; rfl
                    · rw [if_neg hW]
                      (refine rqK rfl ?_; (repeat' first | exact rfl | (refine qS ?_; constructor)))
                      · omega
                      · rw [decide_eq_false (by omega)]; rfl
          · rw [decide_eq_false hC] at cC
            rw [setV, show stI r.length [a, c] = 6 from (if_pos hA).trans (if_neg hC), if_neg (by decide)]
            refine pi2 fn80 ?_
            (repeat' first | (refine Owe.same ?_; first | refine Owe.o ?_ | refine Owe.mk ?_ ?_) | (refine Fork.same ?_; (first | refine fkD ?_ ?_ | refine fkN ?_ ?_ | refine fkM ?_ ?_) <;> intro h) | ((first | refine OpsL.same ?_ | refine OpsDL.same ?_); first | refine oK c1 rfl rfl rfl ?_ | refine oK c104 rfl rfl rfl ?_ | refine oK C91 rfl rfl rfl ?_) | refine MvQ.stay ?_)
            (repeat' first | (refine Owe.same ?_; first | refine Owe.o ?_ | refine Owe.mk ?_ ?_) | (refine Fork.same ?_; (first | refine fkD ?_ ?_ | refine fkN ?_ ?_ | refine fkM ?_ ?_) <;> intro h) | ((first | refine OpsL.same ?_ | refine OpsDL.same ?_); first | refine pK C90 rfl rfl ?_) | refine MvQ.stay ?_)
            · exact absurd h (by decide)
            refine Ops.cs rfl rfl (CallS.of fn102 rfl ?_)
            (repeat' first | (refine Owe.same ?_; first | refine Owe.o ?_ | refine Owe.mk ?_ ?_) | (refine Fork.same ?_; (first | refine fkD ?_ ?_ | refine fkN ?_ ?_ | refine fkM ?_ ?_) <;> intro h) | refine MvQ.stay ?_)
            refine Sat.lp (fun k : Nat => ⟨[(11, vi .i64 k), (10, vi .i64 2), (9, .c (ints [a, c])), (1, .c (.fn 134 [1, 3])), (0, .c (ints [a, c]))], [(3, .box [int (if k = 0 then -1 else a)]), (2, .box [int x, int z, trs l, prs b]), (1, .box [trs r]), (0, .box [int x, int z, trs l])], 4⟩)
              (fun k => k = 0 ∨ k = 1) (fun k => 1 - k) 0 [] (.inl rfl) ?_ ?_
            · (refine qis ?_ ?_ <;> (repeat' first | exact rfl | (refine qS ?_; constructor)))
            · intro k hk
              rcases hk with rfl | rfl
              · (repeat' first | (refine Owe.same ?_; first | refine Owe.o ?_ | refine Owe.mk ?_ ?_) | (refine Fork.same ?_; (first | refine fkY ?_ | refine fkF ?_ | ((first | refine fkD ?_ ?_ | refine fkN ?_ ?_ | refine fkM ?_ ?_) <;> intro h))) | ((first | refine OpsL.same ?_ | refine OpsDL.same ?_); first | refine oK c1 rfl rfl rfl ?_) | refine MvQ.stay ?_)
                refine Ops.cs rfl rfl (CallS.of fn134 rfl ?_)
                have c90 := C90 (l := [unb true 6, unb (decide ((-1 : Int) < a)) 9]) (by simp)
                rw [show fstE [unb true 6, unb (decide ((-1 : Int) < a)) 9] = 0 by rw [decide_eq_true (by have := hA.1; omega)]; rfl] at c90
                (repeat' first | (refine Owe.same ?_; first | refine Owe.o ?_ | refine Owe.mk ?_ ?_) | (refine Fork.same ?_; (first | refine fkY ?_ | refine fkF ?_ | ((first | refine fkD ?_ ?_ | refine fkN ?_ ?_ | refine fkM ?_ ?_) <;> intro h))) | ((first | refine OpsL.same ?_ | refine OpsDL.same ?_); first | refine oK cA rfl rfl rfl ?_ | refine oK C91 rfl rfl rfl ?_) | refine MvQ.stay ?_)
                (repeat' first | (refine Owe.same ?_; first | refine Owe.o ?_ | refine Owe.mk ?_ ?_) | (refine Fork.same ?_; (first | refine fkY ?_ | refine fkF ?_ | ((first | refine fkD ?_ ?_ | refine fkN ?_ ?_ | refine fkM ?_ ?_) <;> intro h))) | ((first | refine OpsL.same ?_ | refine OpsDL.same ?_); first | refine pK c90 rfl rfl ?_) | refine MvQ.stay ?_)
                refine again 1 [] (Or.inr rfl) (by decide) ?_
                (refine qis ?_ ?_ <;> (repeat' first | exact rfl | (refine qS ?_; constructor)))
              · (repeat' first | (refine Owe.same ?_; first | refine Owe.o ?_ | refine Owe.mk ?_ ?_) | (refine Fork.same ?_; (first | refine fkY ?_ | refine fkF ?_ | ((first | refine fkD ?_ ?_ | refine fkN ?_ ?_ | refine fkM ?_ ?_) <;> intro h))) | ((first | refine OpsL.same ?_ | refine OpsDL.same ?_); first | refine oK c1 rfl rfl rfl ?_) | refine MvQ.stay ?_)
                refine Ops.cs rfl rfl (CallS.of fn134 rfl ?_)
                have c90 := C90 (l := [unb false 6, unb (decide (a < c)) 9]) (by simp)
                rw [show fstE [unb false 6, unb (decide (a < c)) 9] = 6 from rfl] at c90
                (repeat' first | (refine Owe.same ?_; first | refine Owe.o ?_ | refine Owe.mk ?_ ?_) | (refine Fork.same ?_; (first | refine fkY ?_ | refine fkF ?_ | ((first | refine fkD ?_ ?_ | refine fkN ?_ ?_ | refine fkM ?_ ?_) <;> intro h))) | ((first | refine OpsL.same ?_ | refine OpsDL.same ?_); first | refine oK cC rfl rfl rfl ?_ | refine oK C91 rfl rfl rfl ?_) | refine MvQ.stay ?_)
                (repeat' first | (refine Owe.same ?_; first | refine Owe.o ?_ | refine Owe.mk ?_ ?_) | (refine Fork.same ?_; (first | refine fkY ?_ | refine fkF ?_ | ((first | refine fkD ?_ ?_ | refine fkN ?_ ?_ | refine fkM ?_ ?_) <;> intro h))) | ((first | refine OpsL.same ?_ | refine OpsDL.same ?_); first | refine pK c90 rfl rfl ?_) | refine MvQ.stay ?_)
                (refine rqK rfl ?_; (repeat' first | exact rfl | (refine qS ?_; constructor)))
        · rw [decide_eq_false hA] at cA
          rw [setV, show stI r.length [a, c] = 6 from if_neg hA, if_neg (by decide)]
          refine pi2 fn80 ?_
          (repeat' first | (refine Owe.same ?_; first | refine Owe.o ?_ | refine Owe.mk ?_ ?_) | (refine Fork.same ?_; (first | refine fkD ?_ ?_ | refine fkN ?_ ?_ | refine fkM ?_ ?_) <;> intro h) | ((first | refine OpsL.same ?_ | refine OpsDL.same ?_); first | refine oK c1 rfl rfl rfl ?_ | refine oK c104 rfl rfl rfl ?_ | refine oK C91 rfl rfl rfl ?_) | refine MvQ.stay ?_)
          (repeat' first | (refine Owe.same ?_; first | refine Owe.o ?_ | refine Owe.mk ?_ ?_) | (refine Fork.same ?_; (first | refine fkD ?_ ?_ | refine fkN ?_ ?_ | refine fkM ?_ ?_) <;> intro h) | ((first | refine OpsL.same ?_ | refine OpsDL.same ?_); first | refine pK C90 rfl rfl ?_) | refine MvQ.stay ?_)
          · exact absurd h (by decide)
          refine Ops.cs rfl rfl (CallS.of fn102 rfl ?_)
          (repeat' first | (refine Owe.same ?_; first | refine Owe.o ?_ | refine Owe.mk ?_ ?_) | (refine Fork.same ?_; (first | refine fkD ?_ ?_ | refine fkN ?_ ?_ | refine fkM ?_ ?_) <;> intro h) | refine MvQ.stay ?_)
          refine Sat.lp (fun k : Nat => ⟨[(11, vi .i64 k), (10, vi .i64 2), (9, .c (ints [a, c])), (1, .c (.fn 134 [1, 3])), (0, .c (ints [a, c]))], [(3, .box [int (-1)]), (2, .box [int x, int z, trs l, prs b]), (1, .box [trs r]), (0, .box [int x, int z, trs l])], 4⟩)
            (fun k => k = 0) (fun k => 1 - k) 0 [] rfl ?_ ?_
          · (refine qis ?_ ?_ <;> (repeat' first | exact rfl | (refine qS ?_; constructor)))
          · intro k hk
            subst hk
            (repeat' first | (refine Owe.same ?_; first | refine Owe.o ?_ | refine Owe.mk ?_ ?_) | (refine Fork.same ?_; (first | refine fkY ?_ | refine fkF ?_ | ((first | refine fkD ?_ ?_ | refine fkN ?_ ?_ | refine fkM ?_ ?_) <;> intro h))) | ((first | refine OpsL.same ?_ | refine OpsDL.same ?_); first | refine oK c1 rfl rfl rfl ?_) | refine MvQ.stay ?_)
            refine Ops.cs rfl rfl (CallS.of fn134 rfl ?_)
            have c90 := C90 (l := [unb false 6, unb (decide ((-1 : Int) < a)) 9]) (by simp)
            rw [show fstE [unb false 6, unb (decide ((-1 : Int) < a)) 9] = 6 from rfl] at c90
            (repeat' first | (refine Owe.same ?_; first | refine Owe.o ?_ | refine Owe.mk ?_ ?_) | (refine Fork.same ?_; (first | refine fkY ?_ | refine fkF ?_ | ((first | refine fkD ?_ ?_ | refine fkN ?_ ?_ | refine fkM ?_ ?_) <;> intro h))) | ((first | refine OpsL.same ?_ | refine OpsDL.same ?_); first | refine oK cA rfl rfl rfl ?_ | refine oK C91 rfl rfl rfl ?_) | refine MvQ.stay ?_)
            (repeat' first | (refine Owe.same ?_; first | refine Owe.o ?_ | refine Owe.mk ?_ ?_) | (refine Fork.same ?_; (first | refine fkY ?_ | refine fkF ?_ | ((first | refine fkD ?_ ?_ | refine fkN ?_ ?_ | refine fkM ?_ ?_) <;> intro h))) | ((first | refine OpsL.same ?_ | refine OpsDL.same ?_); first | refine pK c90 rfl rfl ?_) | refine MvQ.stay ?_)
            (refine rqK rfl ?_; (repeat' first | exact rfl | (refine qS ?_; constructor)))
  · rw [ckV, if_neg h0]
    have e0 : ∀ y, fstE [opR x z l b r, y] = opR x z l b r := fun y => by simp only [fstE, if_neg h0]
    refine pi2 fn80 ?_
    (repeat' first | (refine Owe.same ?_; first | refine Owe.o ?_ | refine Owe.mk ?_ ?_) | (refine Fork.same ?_; (first | refine fkD ?_ ?_ | refine fkN ?_ ?_ | refine fkM ?_ ?_) <;> intro h) | ((first | refine OpsL.same ?_ | refine OpsDL.same ?_); first | refine oK c1 rfl rfl rfl ?_ | refine oK c104 rfl rfl rfl ?_ | refine oK C91 rfl rfl rfl ?_) | refine MvQ.stay ?_)
    (repeat' first | (refine Owe.same ?_; first | refine Owe.o ?_ | refine Owe.mk ?_ ?_) | (refine Fork.same ?_; (first | refine fkD ?_ ?_ | refine fkN ?_ ?_ | refine fkM ?_ ?_) <;> intro h) | ((first | refine OpsL.same ?_ | refine OpsDL.same ?_); first | refine pK C90 rfl rfl ?_) | refine MvQ.stay ?_)
    · (refine rqK rfl ?_; (repeat' first | exact rfl | (refine qS ?_; constructor)))
      exact e0 _
    · exact absurd ((e0 _).symm.trans h) h0
end Go.Pw

set_option linter.unusedSimpArgs false
namespace Go.Pw
set_option maxRecDepth 2000
open Go Go.Proofs A1 A2 A3 A4
theorem lb_err {x z : Int} {l : List Lk} {b : List Rg} : (lbE x z l b).2 = if (lineE x z l).2 = 0 then (boxE l.length b).2 else (lineE x z l).2 := by
  unfold lbE; split <;> rfl
end Go.Pw

set_option linter.unusedSimpArgs false
set_option linter.unusedVariables false
namespace Go.Pw
set_option maxRecDepth 2000
open Go Go.Proofs A1 A2 A3 A4
set_option maxHeartbeats 8000000 in
theorem C12 {x z : Int} {l : List Lk} {b : List Rg} {r : List Lk} {s : List Int} : PFD Try.prog 12 [.agg [int x, int z, trs l], .c (prs b), .agg [trs r, ints s]] (vbl true) := by
  by_cases hf : ((l.length ≤ 12 ∧ (b.length : Int) ≤ 14) ∧ r.length ≤ 14) ∧ s.length ≤ 4
  · obtain ⟨t, ht⟩ := Con.exists (fun i => 0 < ap1 ⟨x, z, l, b⟩ (rd r i)) (fun i k => 0 < ap2 ⟨x, z, l, b⟩ (rd r i) (rd r k)) r.length
    have d1 := C78 (x := x) (z := z) (l := l) (b := b) (r := r) (s := t) ⟨by omega, fun _ => ht⟩
    have d2 := C80 (x := x) (z := z) (l := l) (b := b) (r := r) (s := s) ⟨by omega, by omega⟩
    have c1 := C35 (x := x) (z := z) (l := l) (by omega)
    have c2 := C72 (x := x) (z := z) (l := l) (b := b) (by omega)
    have c3 := C81 (x := x) (z := z) (l := l) (r := r) (by omega)
    have ho := lb_err (x := x) (z := z) (l := l) (b := b)
    by_cases h0 : (lineE x z l).2 = 0
    · rw [if_pos h0] at ho
      rw [h0] at c1
      by_cases h1 : (boxE l.length b).2 = 0
      · rw [h1] at ho c2
        have hR : opR x z l b r = rdsE l.length r := if_pos ho
        by_cases h2 : rdsE l.length r = 0
        · rw [h2] at hR c3
          obtain ⟨hL, hr, hok⟩ := opR_ok hR
          have e1 := C82 (s := t) ⟨hL, by omega, hok, ht⟩
          have e2 := C83 (s := s) ⟨hL, ⟨by omega, by omega⟩, hok⟩
          rw [orE, if_pos hR, if_pos hR] at d1
          rw [ckV, if_pos hR] at d2
          have htl := ht.len
          have c4 := C26 (l := t) (m := t) (by omega)
          rw [decide_eq_true rfl] at c4
          generalize setV ⟨x, z, l, b⟩ r s = V at *
          by_cases htn : t = []
          · subst htn
            rw [if_pos rfl] at d1
            change PFD Try.prog 82 _ (.tup [_, vbl false]) at e1
            refine pi1 fn12 ?_
            (repeat' first | (refine Owe.same ?_; first | refine Owe.o ?_ | refine Owe.mk ?_ ?_) | (refine Fork.same ?_; (first | refine fkY ?_ | refine fkF ?_ | ((first | refine fkD ?_ ?_ | refine fkN ?_ ?_ | refine fkM ?_ ?_) <;> intro h))) | ((first | refine OpsL.same ?_ | refine OpsDL.same ?_); first | refine oK C15 rfl rfl rfl ?_ | refine oK C28 rfl rfl rfl ?_ | refine oK C30 rfl rfl rfl ?_ | refine oK C31 rfl rfl rfl ?_ | refine oK C48 rfl rfl rfl ?_ | refine oK C79 rfl rfl rfl ?_ | refine oK c1 rfl rfl rfl ?_ | refine oK c2 rfl rfl rfl ?_ | refine oK c3 rfl rfl rfl ?_ | refine oK c4 rfl rfl rfl ?_ | refine oK d1 rfl rfl rfl ?_ | refine oK d2 rfl rfl rfl ?_ | refine oK e1 rfl rfl rfl ?_ | refine oK e2 rfl rfl rfl ?_) | refine MvQ.stay ?_)
            (refine rqK rfl ?_; (repeat' first | exact rfl | (refine qS ?_; constructor)))
            exact decide_eq_true rfl
          · rw [if_neg htn] at d1
            rw [show (!t.isEmpty) = true by cases t with
              | nil => exact absurd rfl htn
              | cons => rfl] at e1
            refine pi1 fn12 ?_
            (repeat' first | (refine Owe.same ?_; first | refine Owe.o ?_ | refine Owe.mk ?_ ?_) | (refine Fork.same ?_; (first | refine fkY ?_ | refine fkF ?_ | ((first | refine fkD ?_ ?_ | refine fkN ?_ ?_ | refine fkM ?_ ?_) <;> intro h))) | ((first | refine OpsL.same ?_ | refine OpsDL.same ?_); first | refine oK C15 rfl rfl rfl ?_ | refine oK C28 rfl rfl rfl ?_ | refine oK C30 rfl rfl rfl ?_ | refine oK C31 rfl rfl rfl ?_ | refine oK C48 rfl rfl rfl ?_ | refine oK C79 rfl rfl rfl ?_ | refine oK c1 rfl rfl rfl ?_ | refine oK c2 rfl rfl rfl ?_ | refine oK c3 rfl rfl rfl ?_ | refine oK c4 rfl rfl rfl ?_ | refine oK d1 rfl rfl rfl ?_ | refine oK d2 rfl rfl rfl ?_ | refine oK e1 rfl rfl rfl ?_ | refine oK e2 rfl rfl rfl ?_) | refine MvQ.stay ?_)
            (refine rqK rfl ?_; (repeat' first | exact rfl | (refine qS ?_; constructor)))
            exact decide_eq_true rfl
        · rw [orE, if_neg (by rw [hR]; exact h2), if_neg (by rw [hR]; exact h2), hR] at d1
          rw [ckV, if_neg (by rw [hR]; exact h2), hR] at d2
          generalize rdsE l.length r = E at *
          refine pi1 fn12 ?_
          (repeat' first | (refine Owe.same ?_; first | refine Owe.o ?_ | refine Owe.mk ?_ ?_) | (refine Fork.same ?_; (first | refine fkY ?_ | refine fkF ?_ | ((first | refine fkD ?_ ?_ | refine fkN ?_ ?_ | refine fkM ?_ ?_) <;> intro h))) | ((first | refine OpsL.same ?_ | refine OpsDL.same ?_); first | refine oK C15 rfl rfl rfl ?_ | refine oK C28 rfl rfl rfl ?_ | refine oK C30 rfl rfl rfl ?_ | refine oK C31 rfl rfl rfl ?_ | refine oK C48 rfl rfl rfl ?_ | refine oK C79 rfl rfl rfl ?_ | refine oK c1 rfl rfl rfl ?_ | refine oK c2 rfl rfl rfl ?_ | refine oK c3 rfl rfl rfl ?_ | refine oK d1 rfl rfl rfl ?_ | refine oK d2 rfl rfl rfl ?_) | refine MvQ.stay ?_)
          (refine rqK rfl ?_; (repeat' first | exact rfl | (refine qS ?_; constructor)))
      · have hR : opR x z l b r = (boxE l.length b).2 := (if_neg (by rw [ho]; exact h1)).trans ho
        rw [orE, if_neg (by rw [hR]; exact h1), if_neg (by rw [hR]; exact h1), hR] at d1
        rw [ckV, if_neg (by rw [hR]; exact h1), hR] at d2
        refine pi1 fn12 ?_
        (repeat' first | (refine Owe.same ?_; first | refine Owe.o ?_ | refine Owe.mk ?_ ?_) | (refine Fork.same ?_; (first | refine fkY ?_ | refine fkF ?_ | ((first | refine fkD ?_ ?_ | refine fkN ?_ ?_ | refine fkM ?_ ?_) <;> intro h))) | ((first | refine OpsL.same ?_ | refine OpsDL.same ?_); first | refine oK C15 rfl rfl rfl ?_ | refine oK C28 rfl rfl rfl ?_ | refine oK C30 rfl rfl rfl ?_ | refine oK C31 rfl rfl rfl ?_ | refine oK C48 rfl rfl rfl ?_ | refine oK C79 rfl rfl rfl ?_ | refine oK c1 rfl rfl rfl ?_ | refine oK c2 rfl rfl rfl ?_ | refine oK d1 rfl rfl rfl ?_ | refine oK d2 rfl rfl rfl ?_) | refine MvQ.stay ?_)
        (refine rqK rfl ?_; (repeat' first | exact rfl | (refine qS ?_; constructor)))
    · rw [if_neg h0] at ho
      have hR : opR x z l b r = (lineE x z l).2 := (if_neg (by rw [ho]; exact h0)).trans ho
      rw [orE, if_neg (by rw [hR]; exact h0), if_neg (by rw [hR]; exact h0), hR] at d1
      rw [ckV, if_neg (by rw [hR]; exact h0), hR] at d2
      refine pi1 fn12 ?_
      (repeat' first | (refine Owe.same ?_; first | refine Owe.o ?_ | refine Owe.mk ?_ ?_) | (refine Fork.same ?_; (first | refine fkY ?_ | refine fkF ?_ | ((first | refine fkD ?_ ?_ | refine fkN ?_ ?_ | refine fkM ?_ ?_) <;> intro h))) | ((first | refine OpsL.same ?_ | refine OpsDL.same ?_); first | refine oK C15 rfl rfl rfl ?_ | refine oK C28 rfl rfl rfl ?_ | refine oK C30 rfl rfl rfl ?_ | refine oK C31 rfl rfl rfl ?_ | refine oK C48 rfl rfl rfl ?_ | refine oK C79 rfl rfl rfl ?_ | refine oK c1 rfl rfl rfl ?_ | refine oK d1 rfl rfl rfl ?_ | refine oK d2 rfl rfl rfl ?_) | refine MvQ.stay ?_)
      (refine rqK rfl ?_; (repeat' first | exact rfl | (refine qS ?_; constructor)))
  · refine pi1 fn12 ?_
    (repeat' first | (refine Owe.same ?_; first | refine Owe.o ?_ | refine Owe.mk ?_ ?_) | (refine Fork.same ?_; (first | refine fkY ?_ | refine fkF ?_ | ((first | refine fkD ?_ ?_ | refine fkN ?_ ?_ | refine fkM ?_ ?_) <;> intro h))) | ((first | refine OpsL.same ?_ | refine OpsDL.same ?_); first | refine oK C15 rfl rfl rfl ?_ | refine oK C28 rfl rfl rfl ?_) | refine MvQ.stay ?_)
    all_goals (refine rqK rfl ?_; (repeat' first | exact rfl | (refine qS ?_; constructor)))
end Go.Pw

namespace Go.Proofs.Ytkoohllimmkmoaa
open Go.ChangeShapes Go.WideShapes Go.ChangeAt Go.RowKit Go.Pw
theorem Try.own : ownKnob Try.prog.godebug = none := by kernel_rfl
theorem Try.laidOut : laidOutB Try.prog = true := by kernel_rfl
theorem shapes : shAll Try.prog [49, 72, 112] = some [(true, [.int .i64, .int .i64, .sl [.int .i64, .int .i64, .int .i64]]), (false, [.sl [.int .i64, .int .i64]]), (true, [.sl [.int .i64, .int .i64, .int .i64], .sl [.int .i64]])] := by kernel_rfl
theorem law (args : List V) (h : ArgOk [(true, [.int .i64, .int .i64, .sl [.int .i64, .int .i64, .int .i64]]), (false, [.sl [.int .i64, .int .i64]]), (true, [.sl [.int .i64, .int .i64, .int .i64], .sl [.int .i64]])] args) : PFD Try.prog 12 args (vbl true) := by
  match args, h with
  | [v0, v1, v2], ⟨h0, h1, h2, _⟩ =>
    obtain ⟨x0, z0, l0, r0, q0⟩ := arg_line h0
    obtain ⟨l1, r1, q1⟩ := arg_prs h1
    obtain ⟨l2, m2, r2, q2⟩ := arg_ris h2
    exact PFD.ri C12 (.cons r0 (.cons r1 (.cons r2 .nil)))
set_option maxRecDepth 100000 in
theorem lifted (os : Os) (started : os.Started) (H : Type) (enc : TypeId × Value → H) :
    ReturnsInHanded {} Try.checked os 12 .any (Rows.cableReadingsSpec.pre6 enc Try.prog Try.f12 Rows.cableReadingsRow.domain false) (Rows.cableReadingsSpec.post enc Try.prog Try.f12 false true false false) := by
  refine returnsInHanded_of_change (C := Try.checked) Try.own started (by kernel_rfl) Try.func12
    (ChangeSpec.witness6 (enc := enc) (C := Try.checked) false ⟨#[], #[.agg #[.int .i64 0, .int .i64 0, .slice none 0 0], .slice none 0 0, .agg #[.slice none 0 0, .slice none 0 0]], []⟩ 8 (by kernel_rfl) (by kernel_rfl) (by kernel_rfl) (by kernel_rfl)) ?_
  intro W base args ds gs before hval0 hW hcnd _
  exact law_calls (P := Try.prog) (F := Try.f12) (tb := 4) Try.laidOut (by rw [Try.params12]; exact shapes) rfl (fun ds hl => by
    rw [Try.params12] at hl
    match ds, hl with
    | [d0, d1, d2], _ => rfl) (by kernel_rfl) Try.underlying4 law W base args ds gs before hval0 hW
theorem row_holds : Rows.CableReadingsSaid :=
  OpenClaim.holds_of_wide 12 Try.f12 rfl rfl rfl rfl rfl rfl rfl ⟨rfl, rfl, rfl, rfl, rfl⟩ rfl rfl rfl rfl rfl (by kernel_rfl) Try.func12 (by kernel_rfl)
    (of_decide_eq_true (by kernel_rfl)) (by unfold Func.isWrapper; rw [if_neg (by decide +kernel)]; exact ⟨rfl, rfl⟩)
    (fun os started H enc _ => lifted os started H enc)
end Go.Proofs.Ytkoohllimmkmoaa
