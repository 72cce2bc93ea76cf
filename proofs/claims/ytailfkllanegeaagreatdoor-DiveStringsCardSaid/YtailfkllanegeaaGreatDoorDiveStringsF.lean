/- Steps toward the row of this claim: part 6 of 7. Proved as named below, on no condition but those that each theorem states. -/
import Derived.Test.YtailfkllanegeaaGreatDoorDiveStringsE
import Derived.Test.YtailfkllanegeaaGreatDoorRows
import Derived.LaidMore
import Derived.OpenShut
import Derived.Lib.LaidTab
set_option linter.unusedSimpArgs false
set_option linter.unusedVariables false
set_option maxHeartbeats 1000000
namespace Go.Pw
open Go.RowKit Go.Lib
set_option maxRecDepth 2000
open Go Go.Proofs A1 A2 A3 A4
theorem C42 {l : List Tk} : (l.length ≤ 1000000 ∧ TkSm l) → PFD Tryz.prog 42 [.c (tks l), .c (tks l)] (vbl true) := fun ⟨hl, hs⟩ => by
  refine pi1 fn42 ?_
  (repeat' first | (refine Owe.same ?_; first | refine Owe.o ?_ | refine Owe.mk ?_ ?_) | (refine Fork.same ?_; (first | refine fkY ?_ | refine fkF ?_ | ((first | refine fkD ?_ ?_ | refine fkN ?_ ?_ | refine fkM ?_ ?_) <;> (intro h; try (exfalso; omega))))) | ((first | refine OpsL.same ?_ | refine OpsDL.same ?_); first | refine oK C44 rfl rfl rfl ?_) | refine MvQ.stay ?_)
  refine Sat.lp (fun k : Nat => ⟨[(0, .c (tks l)), (1, .c (tks l)), (5, vi .i64 (k : Int))], [], 0⟩)
    (fun k => k ≤ l.length) (fun k => l.length - k) 0 [] (Nat.zero_le _) ?_ ?_
  · (refine qis ?_ ?_ <;> (repeat' first | exact rfl | (refine qS ?_; constructor)))
  · intro k hk
    refine Fork.dec (fun hlt => ?_) (fun hlt => ?_)
    · have hlt : k < l.length := by have : (k : Int) < l.length := hlt; omega
      have h2 := (hs k hlt).2
      have c44 := C44 (l := (l.getD k tk0).a) (m := (l.getD k tk0).a) (by omega)
      rw [decide_eq_true rfl] at c44
      (repeat' first | (refine Owe.same ?_; first | refine Owe.o ?_ | refine Owe.mk ?_ ?_) | (refine Fork.same ?_; (first | refine fkY ?_ | refine fkF ?_ | ((first | refine fkD ?_ ?_ | refine fkN ?_ ?_ | refine fkM ?_ ?_) <;> (intro h; try (exfalso; omega))))) | ((first | refine OpsL.same ?_ | refine OpsDL.same ?_); first | refine oK c44 rfl rfl rfl ?_) | refine MvQ.stay ?_)
      refine again (k + 1) [] hlt (by omega) ?_
      (refine qis ?_ ?_ <;> (repeat' first | exact rfl | (refine qS ?_; constructor)))
    · (repeat' first | (refine Owe.same ?_; first | refine Owe.o ?_ | refine Owe.mk ?_ ?_) | (refine Fork.same ?_; (first | refine fkD ?_ ?_ | refine fkN ?_ ?_ | refine fkM ?_ ?_) <;> (intro h; try (exfalso; omega))) | refine MvQ.stay ?_)
      (refine rqK rfl ?_; (repeat' first | exact rfl | (refine qS ?_; constructor)))
def mkT (w : By) (n : List Int) : Tk := ⟨bs w, n.getD 0 0, n.getD 1 0, n.getD 2 0, n.getD 3 0, n.getD 4 0, n.getD 5 0, n.getD 6 0, n.drop 7⟩
def tkV (w : By) (r : List By) : Option Tk := match naL 6 r with
  | some n => if 7 ≤ n.length ∧ w ≠ [] then some (mkT w n) else none
  | none => none
def tkP (p : By) : Option Tk := match cutG 32 [] p with
  | w :: r => tkV w r
  | [] => none
def ptV (W : List By) : List Tk × Int := match alL tkP W with
  | none => ([], 7)
  | some l => if (tsE l).2 = 0 then (l, 0) else ([], (tsE l).2)
def ptE (s : By) : List Tk × Int := if 60000 < s.length then ([], 8) else if s = [] then ([], 0) else ptV (cutG 59 [] s)
theorem tkV_no {w : By} {r : List By} (h : naL 6 r = none) : tkV w r = none := by unfold tkV; rw [h]
theorem tkV_sm {w : By} {r : List By} {n : List Int} (h : naL 6 r = some n) (h2 : ¬ (7 ≤ n.length ∧ w ≠ [])) : tkV w r = none := by unfold tkV; rw [h]; exact if_neg h2
theorem tkV_ok {w : By} {r : List By} {n : List Int} (h : naL 6 r = some n) (h2 : 7 ≤ n.length ∧ w ≠ []) : tkV w r = some (mkT w n) := by unfold tkV; rw [h]; exact if_pos h2
theorem tkP_of {p w : By} {r : List By} (h : cutG 32 [] p = w :: r) : tkP p = tkV w r := by unfold tkP; rw [h]
theorem drop7 (n : List Int) : (D.sl 1 (n.length - 7) fun i => r1 (n.getD (7 + i) 0)) = intsD (n.drop 7) := by
  show _ = D.sl 1 (n.drop 7).length fun i => r1 ((n.drop 7).getD i 0)
  rw [List.length_drop]
  congr 1
  funext i
  rw [List.getD_eq_getElem?_getD, List.getD_eq_getElem?_getD, List.getElem?_drop]
theorem tkP_sm {s : By} (hs : s.length ≤ 100000) {t : Tk} (h : tkP s = some t) : t.n.size ≤ 1000000 ∧ t.a.length ≤ 1000000 := by
  unfold tkP at h
  split at h
  · rename_i w r hw
    unfold tkV at h
    split at h
    · rename_i n hn
      split at h
      · cases h
        have h1 := hPc (s := s) (c := 32) (by omega)
        rw [hw] at h1
        have h2 := alL_len hn
        have h3 := h1.2 w (by simp)
        have h4 := h1.1
        rw [List.length_cons] at h4
        refine ⟨by show (bs w).size ≤ _; rw [bs_size]; exact h3, by show (n.drop 7).length ≤ _; rw [List.length_drop]; omega⟩
      · cases h
    · cases h
  · cases h
theorem alL_mem {α : Type} {f : By → Option α} {p : α → Prop} : ∀ {W : List By} {l : List α}, alL f W = some l → (∀ x ∈ W, ∀ a, f x = some a → p a) → ∀ a ∈ l, p a
  | [], l, h, hp, a, ha => by cases h; cases ha
  | x :: W, l, h, hp, a, ha => by
    rw [alL] at h
    split at h
    · rename_i n m hn hm
      cases h
      rcases List.mem_cons.1 ha with rfl | ha
      · exact hp x (by simp) _ hn
      · exact alL_mem hm (fun y hy => hp y (List.mem_cons_of_mem _ hy)) a ha
    · cases h
theorem ts_sm {s : By} (hs : s.length ≤ 100000) {W : List By} {l : List Tk} (hW : ∀ x ∈ W, x.length ≤ 100000) (h : alL tkP W = some l) : TkSm l := fun i hi =>
  alL_mem h (fun x hx a ha => tkP_sm (hW x hx) ha) _ (getD_mem tk0 hi)
theorem C36 {s : By} : s.length ≤ 100000 → PFD Tryz.prog 36 [sv s] (.tup [.c (tks (ptE s).1), vi .i64 (ptE s).2]) := fun hs => by
  have hz : (bs s).size = s.length := bs_size s
  by_cases hb : 60000 < s.length
  · rw [show ptE s = ([], 8) by unfold ptE; rw [if_pos hb]]
    refine pi2 fn36 ?_
    (repeat' first | (refine Owe.same ?_; first | refine Owe.o ?_ | refine Owe.mk ?_ ?_) | (refine Fork.same ?_; (first | refine fkD ?_ ?_ | refine fkN ?_ ?_ | refine fkM ?_ ?_) <;> (intro h; try (exfalso; omega))) | refine MvQ.stay ?_)
    (refine rqK rfl ?_; (repeat' first | exact rfl | (refine qS ?_; constructor)))
  by_cases h0 : s = []
  · rw [show ptE s = ([], 0) by unfold ptE; rw [if_neg hb, if_pos h0]]
    subst h0
    refine pi2 fn36 ?_
    (repeat' first | (refine Owe.same ?_; first | refine Owe.o ?_ | refine Owe.mk ?_ ?_) | (refine Fork.same ?_; (first | refine fkD ?_ ?_ | refine fkN ?_ ?_ | refine fkM ?_ ?_) <;> (intro h; try (exfalso; omega))) | refine MvQ.stay ?_)
    · (refine rqK rfl ?_; (repeat' first | exact rfl | (refine qS ?_; constructor)))
    · rename_i h; exact absurd rfl h
  have hne : ¬ (bs s).data.toList = (ByteArray.mk #[]).data.toList := fun h => h0 (by simpa [bs] using h)
  have c101 := C101 (s := s) (c := 59) (by omega)
  have hPl := cut_count (c := 59) (l := s) (acc := [])
  have hPx : Hd (∀ x ∈ cutG 59 [] s, x.length ≤ 60000) := ⟨fun x hx => by have := cut_len x hx; simp at this; omega⟩
  rw [show ptE s = ptV (cutG 59 [] s) by unfold ptE; rw [if_neg hb, if_neg h0]]
  generalize cutG 59 [] s = W at *
  refine pi2 fn36 ?_
  (repeat' first | (refine Owe.same ?_; first | refine Owe.o ?_ | refine Owe.mk ?_ ?_) | (refine Fork.same ?_; (first | refine fkY ?_ | refine fkF ?_ | ((first | refine fkD ?_ ?_ | refine fkN ?_ ?_ | refine fkM ?_ ?_) <;> (intro h; try (exfalso; omega))))) | ((first | refine OpsL.same ?_ | refine OpsDL.same ?_); first | refine oK c101 rfl rfl rfl ?_) | refine MvQ.stay ?_)
  refine Sat.nilS 5 182 9 (fun i => tkr (([] : List Tk).getD i tk0)) rfl ?_
  refine Sat.lp (fun st : Nat × List Tk => ⟨[(4, .c (sts W)), (5, .c (.ms 0 st.2.length)), (6, vi .i64 (st.1 : Int))], [(0, rowv 182 9 tkr tk0 st.2)], 1⟩)
    (fun st : Nat × List Tk => (st.1 ≤ W.length ∧ st.2.length = st.1) ∧ Hd (alL tkP (W.take st.1) = some st.2)) (fun st : Nat × List Tk => W.length - st.1) (0, []) [0] ⟨by simp, ⟨rfl⟩⟩ ?_ ?_
  · (refine qis ?_ ?_ <;> (repeat' first | exact rfl | (refine qS ?_; constructor)))
  · rintro ⟨k, acc⟩ ⟨⟨hk, hal⟩, ha⟩
    simp only at hk hal ha
    refine Fork.dec (fun hlt => ?_) (fun hlt => ?_)
    · have hlt : k < W.length := by have : (k : Int) < W.length := hlt; omega
      have hpl := hPx.h _ (getD_mem [] hlt)
      have cp := C101 (s := W.getD (k : Int).toNat []) (c := 32) (Nat.le_trans hpl (by decide))
      obtain ⟨w, r, hwr⟩ : ∃ w r, cutG 32 [] (W.getD k []) = w :: r := by
        cases hc : cutG 32 [] (W.getD k []) with
        | nil => exact absurd hc cutG_ne
        | cons x r => exact ⟨x, r, rfl⟩
      have hPr := hPc (s := W.getD k []) (c := 32) (Nat.le_trans hpl (by decide))
      have hwr' : cutG 32 [] (W.getD (k : Int).toNat []) = w :: r := hwr
      rw [hwr'] at cp
      rw [hwr] at hPr
      have hr : r.length ≤ 1000000 ∧ ∀ x ∈ r, x.length ≤ 1000000 := ⟨by have := hPr.1; rw [List.length_cons] at this; omega, fun x hx => hPr.2 x (List.mem_cons_of_mem _ hx)⟩
      have hwl : (w :: r).length = r.length + 1 := rfl
      have htk := tkP_of hwr
      clear hPr hwr hwr'
      (repeat' first | (refine Owe.same ?_; first | refine Owe.o ?_ | refine Owe.mk ?_ ?_) | (refine Fork.same ?_; (first | refine fkY ?_ | refine fkF ?_ | ((first | refine fkD ?_ ?_ | refine fkN ?_ ?_ | refine fkM ?_ ?_) <;> (intro h; try (exfalso; omega))))) | ((first | refine OpsL.same ?_ | refine OpsDL.same ?_); first | refine oK cp rfl rfl rfl ?_) | refine MvQ.stay ?_)
      refine OpsL.as 32 (.c (sts r)) ?_ ?_
      · exact VEq.c _ _ (CEq.sl rfl (fun i hi => by
          show rS ((w :: r).getD (1 + i) []) = rS (r.getD i [])
          rw [Nat.add_comm]; rfl))
      cases hn : naL 6 r with
      | none =>
        have h114 := C114n hn hr (by decide)
        rw [show ptV W = ([], 7) by unfold ptV; rw [alL_take hlt (htk.trans (tkV_no hn))]]
        (repeat' first | (refine Owe.same ?_; first | refine Owe.o ?_ | refine Owe.mk ?_ ?_) | (refine Fork.same ?_; (first | refine fkY ?_ | refine fkF ?_ | ((first | refine fkD ?_ ?_ | refine fkN ?_ ?_ | refine fkM ?_ ?_) <;> (intro h; try (exfalso; omega))))) | ((first | refine OpsL.same ?_ | refine OpsDL.same ?_); first | refine oK h114 rfl rfl rfl ?_) | refine MvQ.stay ?_)
        (refine rqK rfl ?_; (repeat' first | exact rfl | (refine qS ?_; constructor)))
      | some n =>
        have h114 := C114y hn hr (by decide)
        by_cases hok : 7 ≤ n.length ∧ w ≠ []
        · have hnl : n.length ≤ 1000000 := by have h1 := alL_len hn; have h2 := hr.1; omega
          have hne2 : ¬ (bs ((w :: r).getD (Int.toNat 0) [])).data.toList = (ByteArray.mk #[]).data.toList := fun h => hok.2 (by simpa [bs] using h)
          have h7 := hok.1
          have c32 := C32d (l := n) (k := 7) (by omega)
          have hn1 : alL tkP (W.take (k + 1)) = some (acc ++ [mkT w n]) := by rw [tk1 [] hlt, alL_app ha.h, htk.trans (tkV_ok hn hok)]
          have hn1 := Hd.mk hn1
          have ha := ha
          clear htk hok hn hr cp
          (repeat' first | (refine Owe.same ?_; first | refine Owe.o ?_ | refine Owe.mk ?_ ?_) | (refine Fork.same ?_; (first | refine fkY ?_ | refine fkF ?_ | ((first | refine fkD ?_ ?_ | refine fkN ?_ ?_ | refine fkM ?_ ?_) <;> (intro h; try (exfalso; omega))))) | ((first | refine OpsL.same ?_ | refine OpsDL.same ?_); first | refine oK h114 rfl rfl rfl ?_ | refine oK c32 rfl rfl rfl ?_) | refine MvQ.stay ?_)
          refine again (k + 1, acc ++ [mkT w n]) [31] ⟨⟨hlt, by simp; omega⟩, hn1⟩ (by show W.length - (k + 1) < W.length - k; omega) ?_
          (refine qis ?_ ?_ <;> (repeat' first | exact rfl | (refine qS ?_; constructor)))
          · simp
          · exact ⟨mkT w n, rfl, rfl⟩
        · rw [show ptV W = ([], 7) by unfold ptV; rw [alL_take hlt (htk.trans (tkV_sm hn hok))]]
          by_cases h7 : 7 ≤ n.length
          · have hw0 : w = [] := by
              by_cases hw : w = []
              · exact hw
              · exact absurd ⟨h7, hw⟩ hok
            have he2 : (bs ((w :: r).getD (Int.toNat 0) [])).data.toList = (ByteArray.mk #[]).data.toList := by rw [hw0]; rfl
            (repeat' first | (refine Owe.same ?_; first | refine Owe.o ?_ | refine Owe.mk ?_ ?_) | (refine Fork.same ?_; (first | refine fkY ?_ | refine fkF ?_ | ((first | refine fkD ?_ ?_ | refine fkN ?_ ?_ | refine fkM ?_ ?_) <;> (intro h; try (exfalso; omega))))) | ((first | refine OpsL.same ?_ | refine OpsDL.same ?_); first | refine oK h114 rfl rfl rfl ?_) | refine MvQ.stay ?_)
            (refine rqK rfl ?_; (repeat' first | exact rfl | (refine qS ?_; constructor)))
          · (repeat' first | (refine Owe.same ?_; first | refine Owe.o ?_ | refine Owe.mk ?_ ?_) | (refine Fork.same ?_; (first | refine fkY ?_ | refine fkF ?_ | ((first | refine fkD ?_ ?_ | refine fkN ?_ ?_ | refine fkM ?_ ?_) <;> (intro h; try (exfalso; omega))))) | ((first | refine OpsL.same ?_ | refine OpsDL.same ?_); first | refine oK h114 rfl rfl rfl ?_) | refine MvQ.stay ?_)
            (refine rqK rfl ?_; (repeat' first | exact rfl | (refine qS ?_; constructor)))
    · have hk1 : k = W.length := by have : ¬ (k : Int) < W.length := hlt; omega
      have ha2 : alL tkP W = some acc := by have := ha.h; rw [hk1, List.take_length] at this; exact this
      have hsm := ts_sm hs (fun x hx => Nat.le_trans (hPx.h x hx) (by decide)) ha2
      have c45 := C45 (l := acc) ⟨by omega, hsm⟩
      by_cases he : (tsE acc).2 = 0
      · rw [show ptV W = (acc, 0) by unfold ptV; rw [ha2]; exact if_pos he]
        rw [he] at c45
        (repeat' first | (refine Owe.same ?_; first | refine Owe.o ?_ | refine Owe.mk ?_ ?_) | (refine Fork.same ?_; (first | refine fkD ?_ ?_ | refine fkN ?_ ?_ | refine fkM ?_ ?_) <;> intro h))
        refine MvQ.frz 5 _ rfl rfl (Nat.le_refl _) ?_
        (repeat' first | (refine Owe.same ?_; first | refine Owe.o ?_ | refine Owe.mk ?_ ?_) | (refine Fork.same ?_; (first | refine fkY ?_ | refine fkF ?_ | ((first | refine fkD ?_ ?_ | refine fkN ?_ ?_ | refine fkM ?_ ?_) <;> (intro h; try (exfalso; omega))))) | ((first | refine OpsL.same ?_ | refine OpsDL.same ?_); first | refine oK c45 rfl rfl rfl ?_) | refine MvQ.stay ?_)
        (refine rqK rfl ?_; (repeat' first | exact rfl | (refine qS ?_; constructor)))
      · rw [show ptV W = ([], (tsE acc).2) by unfold ptV; rw [ha2]; exact if_neg he]
        generalize (tsE acc).2 = e at *
        (repeat' first | (refine Owe.same ?_; first | refine Owe.o ?_ | refine Owe.mk ?_ ?_) | (refine Fork.same ?_; (first | refine fkD ?_ ?_ | refine fkN ?_ ?_ | refine fkM ?_ ?_) <;> intro h))
        refine MvQ.frz 5 _ rfl rfl (Nat.le_refl _) ?_
        (repeat' first | (refine Owe.same ?_; first | refine Owe.o ?_ | refine Owe.mk ?_ ?_) | (refine Fork.same ?_; (first | refine fkY ?_ | refine fkF ?_ | ((first | refine fkD ?_ ?_ | refine fkN ?_ ?_ | refine fkM ?_ ?_) <;> (intro h; try (exfalso; omega))))) | ((first | refine OpsL.same ?_ | refine OpsDL.same ?_); first | refine oK c45 rfl rfl rfl ?_) | refine MvQ.stay ?_)
        (refine rqK rfl ?_; (repeat' first | exact rfl | (refine qS ?_; constructor)))
theorem naL_nil : naL 6 (cutG 32 [] []) = none := rfl
theorem pt_bad {s w : By} {dn rr : List By} (h : cutG 59 [] s = dn ++ w :: rr) (hw : tkP w = none) : ptV (cutG 59 [] s) = ([], 7) := by
  unfold ptV; rw [h, alL_bad hw]
theorem rowT (a : By) (n : List Int) : ([svD a, dI (n.getD 0 0), dI (n.getD 1 0), dI (n.getD 2 0), dI (n.getD 3 0), dI (n.getD 4 0), dI (n.getD 5 0), dI (n.getD 6 0), D.sl 1 (n.length - 7) fun i => r1 (n.getD (7 + i) 0)] : List D) = tkr (mkT a n) := by
  rw [drop7]; rfl
theorem tk_app {acc : List Tk} {a : By} {n : List Int} : CEq (.d (.sl 9 (acc.length + 1) fun i => if i < acc.length then tkr (acc.getD i tk0) else [[svD a, dI (n.getD 0 0), dI (n.getD 1 0), dI (n.getD 2 0), dI (n.getD 3 0), dI (n.getD 4 0), dI (n.getD 5 0), dI (n.getD 6 0), D.sl 1 (n.length - 7) fun i => r1 (n.getD (7 + i) 0)]].getD (i - acc.length) [])) (tks (acc ++ [mkT a n])) := by
  rw [rowT]
  refine CEq.sl (by rw [List.length_append]; rfl) fun i hi => ?_
  by_cases h : i < acc.length
  · rw [if_pos h, List.getD_eq_getElem?_getD (l := acc ++ _), List.getElem?_append_left h, ← List.getD_eq_getElem?_getD]
  · have : i = acc.length := by omega
    subst this
    rw [if_neg h, Nat.sub_self, List.getD_eq_getElem?_getD (l := acc ++ _), List.getElem?_append_right (Nat.le_refl _), Nat.sub_self]; rfl
theorem C33 {s : By} : s.length ≤ 100000 → PFD Tryz.prog 33 [sv s] (.tup [.c (tks (ptE s).1), vi .i64 (ptE s).2]) := fun hs => by
  have hz : (bs s).size = s.length := bs_size s
  by_cases hb : 60000 < s.length
  · rw [show ptE s = ([], 8) by unfold ptE; rw [if_pos hb]]
    refine pi2 fn33 ?_
    (repeat' first | (refine Owe.same ?_; first | refine Owe.o ?_ | refine Owe.mk ?_ ?_) | (refine Fork.same ?_; (first | refine fkD ?_ ?_ | refine fkN ?_ ?_ | refine fkM ?_ ?_) <;> (intro h; try (exfalso; omega))) | refine MvQ.stay ?_)
    (refine rqK rfl ?_; (repeat' first | exact rfl | (refine qS ?_; constructor)))
  by_cases h0 : s = []
  · rw [show ptE s = ([], 0) by unfold ptE; rw [if_neg hb, if_pos h0]]
    subst h0
    refine pi2 fn33 ?_
    (repeat' first | (refine Owe.same ?_; first | refine Owe.o ?_ | refine Owe.mk ?_ ?_) | (refine Fork.same ?_; (first | refine fkD ?_ ?_ | refine fkN ?_ ?_ | refine fkM ?_ ?_) <;> (intro h; try (exfalso; omega))) | refine MvQ.stay ?_)
    · (refine rqK rfl ?_; (repeat' first | exact rfl | (refine qS ?_; constructor)))
    · rename_i h; exact absurd rfl h
  have hne : ¬ (bs s).data.toList = (ByteArray.mk #[]).data.toList := fun h => h0 (by simpa [bs] using h)
  rw [show ptE s = ptV (cutG 59 [] s) by unfold ptE; rw [if_neg hb, if_neg h0]]
  refine pi2 fn33 ?_
  (repeat' first | (refine Owe.same ?_; first | refine Owe.o ?_ | refine Owe.mk ?_ ?_) | (refine Fork.same ?_; (first | refine fkY ?_ | refine fkF ?_ | ((first | refine fkD ?_ ?_ | refine fkN ?_ ?_ | refine fkM ?_ ?_) <;> (intro h; try (exfalso; omega))))) | ((first | refine OpsL.same ?_ | refine OpsDL.same ?_); first | refine oK C44 rfl rfl rfl ?_) | refine MvQ.stay ?_)
  refine Ops.cs rfl rfl (CallS.of fn110 rfl ?_)
  (repeat' first | (refine Owe.same ?_; first | refine Owe.o ?_ | refine Owe.mk ?_ ?_) | (refine Fork.same ?_; (first | refine fkD ?_ ?_ | refine fkN ?_ ?_ | refine fkM ?_ ?_) <;> intro h) | refine MvQ.stay ?_)
  refine Ops.cs rfl rfl (CallS.of fn197 rfl ?_)
  (repeat' first | (refine Owe.same ?_; first | refine Owe.o ?_ | refine Owe.mk ?_ ?_) | (refine Fork.same ?_; (first | refine fkD ?_ ?_ | refine fkN ?_ ?_ | refine fkM ?_ ?_) <;> intro h) | refine MvQ.stay ?_)
  refine Sat.keep [2, 3, 4, 20] ?_
  refine Sat.rf rfl rfl (CallS.of fn255 rfl ?_)
  (repeat' first | (refine Owe.same ?_; first | refine Owe.o ?_ | refine Owe.mk ?_ ?_) | (refine Fork.same ?_; (first | refine fkD ?_ ?_ | refine fkN ?_ ?_ | refine fkM ?_ ?_) <;> intro h) | refine MvQ.stay ?_)
  · exact absurd h (by decide)
  refine Sat.nilB 2 0 182 9 (fun i => tkr (([] : List Tk).getD i tk0)) rfl rfl ?_
  have hcx : ∀ x ∈ cutG 59 [] s, x.length ≤ 100000 := fun x hx => by have := cut_len x hx; simp at this; omega
  refine Sat.lp (fun st : List Tk × By => ⟨[(0, .c (.yd 6)), (1, .c (.bp 4 0)), (2, .c (.bp 3 0)), (3, .c (.bp 5 0))],
      [(0, .box [.d (.v (.slice none 0 0))]), (1, .box [int 0]), (2, .box [.ms 7 st.1.length]), (3, .box [.d (svD st.2)]), (4, .box [.d (.v (.string ⟨#[59]⟩))]), (5, .box [int 0]),
       (6, .lp [(2, .c (.bp 0 0)), (3, .c (.bp 1 0)), (4, .c (.bp 2 0)), (20, .c (.fn 255 [4, 3, 5]))] .ready none (RR Tryz.prog 78 [21] ra33 rb33)), (7, rowv 182 9 tkr tk0 st.1)], 8⟩)
    (fun st : List Tk × By => st.1.length + st.2.length ≤ 100000 ∧ ∃ dn, cutG 59 [] s = dn ++ cutG 59 [] st.2 ∧ alL tkP dn = some st.1) (fun st : List Tk × By => st.2.length) ([], s) [7] ⟨by simpa using hs, [], rfl, rfl⟩ ?_ ?_
  · (refine qis ?_ ?_ <;> (repeat' first | exact rfl | (refine qS ?_; constructor)))
  · rintro ⟨acc, rest⟩ ⟨hlen, dn, hcut, hdn⟩
    simp only at hlen hcut hdn
    rcases ix_cases 59 rest with ⟨hi, hm⟩ | ⟨p, r, rfl, hm, hi⟩
    · have h124 := C249 (l := rest) (c := 59)
      rw [hi] at h124
      (repeat' first | (refine Owe.same ?_; first | refine Owe.o ?_ | refine Owe.mk ?_ ?_) | (refine Fork.same ?_; (first | refine fkD ?_ ?_ | refine fkN ?_ ?_ | refine fkM ?_ ?_) <;> intro h) | ((first | refine OpsL.same ?_ | refine OpsDL.same ?_); first | refine pK h124 rfl rfl ?_) | refine MvQ.stay ?_)
      · refine OpsL.as 50 (sv rest) (.refl _) ?_
        rcases ix_cases 32 rest with ⟨hi2, hm2⟩ | ⟨a, b, hab, hm2, hi2⟩
        · have c111 := C111m hm2
          have c112 := C112n naL_nil (by simp) (by decide)
          have hbt : tkP rest = none := by rw [tkP_of (show cutG 32 [] rest = [rest] by rw [cutG_miss hm2, List.nil_append])]; rfl
          refine Ops.yd rfl rfl rfl rfl rfl ?_
          (repeat' first | (refine Owe.same ?_; first | refine Owe.o ?_ | refine Owe.mk ?_ ?_) | (refine Fork.same ?_; (first | refine fkD ?_ ?_ | refine fkN ?_ ?_ | refine fkM ?_ ?_) <;> (intro h; try (exfalso; omega))) | refine MvQ.stay ?_)
          refine And.intro rfl (Exists.intro _ (And.intro rfl ?_))
          (repeat' first | (refine Owe.same ?_; first | refine Owe.o ?_ | refine Owe.mk ?_ ?_) | (refine Fork.same ?_; (first | refine fkY ?_ | refine fkF ?_ | ((first | refine fkD ?_ ?_ | refine fkN ?_ ?_ | refine fkM ?_ ?_) <;> (intro h; try (exfalso; omega))))) | ((first | refine OpsL.same ?_ | refine OpsDL.same ?_); first | refine oK c111 rfl rfl rfl ?_ | refine oK c112 rfl rfl rfl ?_) | refine MvQ.stay ?_)
          refine Exists.intro _ (Exists.intro _ (Exists.intro _ (And.intro rfl ?_)))
          (repeat' first | (refine Owe.same ?_; first | refine Owe.o ?_ | refine Owe.mk ?_ ?_) | (refine Fork.same ?_; (first | refine fkD ?_ ?_ | refine fkN ?_ ?_ | refine fkM ?_ ?_) <;> (intro h; try (exfalso; omega))) | refine MvQ.stay ?_)
          rw [pt_bad (rr := []) (hcut.trans (by rw [cutG_miss hm, List.nil_append])) hbt]
          (refine rqK rfl ?_; (repeat' first | exact rfl | (refine qS ?_; constructor)))
        · have hlq : a.length + b.length + 1 = rest.length := by rw [hab]; simp [Nat.add_assoc]
          have c111 := C111h (c := 32) (p := a) (r := b) hm2 (by omega)
          rw [← hab] at c111
          have htk : tkP rest = tkV a (cutG 32 [] b) := tkP_of (by rw [hab, cutG_hit hm2, List.nil_append])
          cases hn : naL 6 (cutG 32 [] b) with
          | none =>
            have c112 := C112n hn (by omega) (by decide)
            have hbt : tkP rest = none := htk.trans (tkV_no hn)
            refine Ops.yd rfl rfl rfl rfl rfl ?_
            (repeat' first | (refine Owe.same ?_; first | refine Owe.o ?_ | refine Owe.mk ?_ ?_) | (refine Fork.same ?_; (first | refine fkD ?_ ?_ | refine fkN ?_ ?_ | refine fkM ?_ ?_) <;> (intro h; try (exfalso; omega))) | refine MvQ.stay ?_)
            refine And.intro rfl (Exists.intro _ (And.intro rfl ?_))
            (repeat' first | (refine Owe.same ?_; first | refine Owe.o ?_ | refine Owe.mk ?_ ?_) | (refine Fork.same ?_; (first | refine fkY ?_ | refine fkF ?_ | ((first | refine fkD ?_ ?_ | refine fkN ?_ ?_ | refine fkM ?_ ?_) <;> (intro h; try (exfalso; omega))))) | ((first | refine OpsL.same ?_ | refine OpsDL.same ?_); first | refine oK c111 rfl rfl rfl ?_ | refine oK c112 rfl rfl rfl ?_) | refine MvQ.stay ?_)
            refine Exists.intro _ (Exists.intro _ (Exists.intro _ (And.intro rfl ?_)))
            (repeat' first | (refine Owe.same ?_; first | refine Owe.o ?_ | refine Owe.mk ?_ ?_) | (refine Fork.same ?_; (first | refine fkD ?_ ?_ | refine fkN ?_ ?_ | refine fkM ?_ ?_) <;> (intro h; try (exfalso; omega))) | refine MvQ.stay ?_)
            rw [pt_bad (rr := []) (hcut.trans (by rw [cutG_miss hm, List.nil_append])) hbt]
            (refine rqK rfl ?_; (repeat' first | exact rfl | (refine qS ?_; constructor)))
          | some n =>
            have c112 := C112y hn (by omega) (by decide)
            by_cases hok : 7 ≤ n.length ∧ a ≠ []
            · have hbt : tkP rest = some (mkT a n) := htk.trans (tkV_ok hn hok)
              have hne2 : ¬ (bs a).data.toList = (ByteArray.mk #[]).data.toList := fun h => hok.2 (by simpa [bs] using h)
              have hcc := cut_count (c := 32) (l := b) (acc := [])
              have hnl : n.length ≤ 1000001 := by have h1 := alL_len hn; omega
              have h7 := hok.1
              clear hcc hn htk
              refine Ops.yd rfl rfl rfl rfl rfl ?_
              (repeat' first | (refine Owe.same ?_; first | refine Owe.o ?_ | refine Owe.mk ?_ ?_) | (refine Fork.same ?_; (first | refine fkD ?_ ?_ | refine fkN ?_ ?_ | refine fkM ?_ ?_) <;> (intro h; try (exfalso; omega))) | refine MvQ.stay ?_)
              refine And.intro rfl (Exists.intro _ (And.intro rfl ?_))
              (repeat' first | (refine Owe.same ?_; first | refine Owe.o ?_ | refine Owe.mk ?_ ?_) | (refine Fork.same ?_; (first | refine fkY ?_ | refine fkF ?_ | ((first | refine fkD ?_ ?_ | refine fkN ?_ ?_ | refine fkM ?_ ?_) <;> (intro h; try (exfalso; omega))))) | ((first | refine OpsL.same ?_ | refine OpsDL.same ?_); first | refine oK c111 rfl rfl rfl ?_ | refine oK c112 rfl rfl rfl ?_) | refine MvQ.stay ?_)
              refine Exists.intro _ (Exists.intro _ (Exists.intro _ (And.intro rfl ?_)))
              (repeat' first | (refine Owe.same ?_; first | refine Owe.o ?_ | refine Owe.mk ?_ ?_) | (refine Fork.same ?_; (first | refine fkD ?_ ?_ | refine fkN ?_ ?_ | refine fkM ?_ ?_) <;> (intro h; try (exfalso; omega))) | refine MvQ.stay ?_)
              have e : alL tkP (cutG 59 [] s) = some (acc ++ [mkT a n]) := by rw [hcut, cutG_miss hm, List.nil_append, alL_app hdn, hbt]
              have hsm := ts_sm hs hcx e
              have hl2 : (acc ++ [mkT a n]).length ≤ 1000000 := by rw [List.length_append]; show acc.length + 1 ≤ _; omega
              have c113 := C113 (l := acc ++ [mkT a n]) ⟨hl2, hsm⟩
              refine OpsL.frz 70 _ rfl rfl (Nat.le_refl _) ?_
              refine OpsL.as 70 (.c (tks (acc ++ [mkT a n]))) ?_ ?_
              · exact VEq.c _ _ (tk_app)
              by_cases he : (tsE (acc ++ [mkT a n])).2 = 0
              · rw [show ptV (cutG 59 [] s) = (acc ++ [mkT a n], 0) by unfold ptV; rw [e]; exact if_pos he]
                rw [he] at c113
                refine OpsL.frzX 2 0 30 rfl rfl rfl (Nat.le_refl _) ?_
                (repeat' first | (refine Owe.same ?_; first | refine Owe.o ?_ | refine Owe.mk ?_ ?_) | (refine Fork.same ?_; (first | refine fkY ?_ | refine fkF ?_ | ((first | refine fkD ?_ ?_ | refine fkN ?_ ?_ | refine fkM ?_ ?_) <;> (intro h; try (exfalso; omega))))) | ((first | refine OpsL.same ?_ | refine OpsDL.same ?_); first | refine oK c113 rfl rfl rfl ?_) | refine MvQ.stay ?_)
                (refine rqK rfl ?_; (repeat' first | exact rfl | (refine qS ?_; constructor)))
                exact ⟨mkT a n, rowT a n, rfl⟩
              · rw [show ptV (cutG 59 [] s) = ([], (tsE (acc ++ [mkT a n])).2) by unfold ptV; rw [e]; exact if_neg he]
                generalize (tsE (acc ++ [mkT a n])).2 = e1 at *
                (repeat' first | (refine Owe.same ?_; first | refine Owe.o ?_ | refine Owe.mk ?_ ?_) | (refine Fork.same ?_; (first | refine fkY ?_ | refine fkF ?_ | ((first | refine fkD ?_ ?_ | refine fkN ?_ ?_ | refine fkM ?_ ?_) <;> (intro h; try (exfalso; omega))))) | ((first | refine OpsL.same ?_ | refine OpsDL.same ?_); first | refine oK c113 rfl rfl rfl ?_) | refine MvQ.stay ?_)
                (refine rqK rfl ?_; (repeat' first | exact rfl | (refine qS ?_; constructor)))
            · have hbt : tkP rest = none := htk.trans (tkV_sm hn hok)
              by_cases h7 : 7 ≤ n.length
              · have hw0 : a = [] := by
                  by_cases hw : a = []
                  · exact hw
                  · exact absurd ⟨h7, hw⟩ hok
                have he2 : (bs a).data.toList = (ByteArray.mk #[]).data.toList := by rw [hw0]
                refine Ops.yd rfl rfl rfl rfl rfl ?_
                (repeat' first | (refine Owe.same ?_; first | refine Owe.o ?_ | refine Owe.mk ?_ ?_) | (refine Fork.same ?_; (first | refine fkD ?_ ?_ | refine fkN ?_ ?_ | refine fkM ?_ ?_) <;> (intro h; try (exfalso; omega))) | refine MvQ.stay ?_)
                refine And.intro rfl (Exists.intro _ (And.intro rfl ?_))
                (repeat' first | (refine Owe.same ?_; first | refine Owe.o ?_ | refine Owe.mk ?_ ?_) | (refine Fork.same ?_; (first | refine fkY ?_ | refine fkF ?_ | ((first | refine fkD ?_ ?_ | refine fkN ?_ ?_ | refine fkM ?_ ?_) <;> (intro h; try (exfalso; omega))))) | ((first | refine OpsL.same ?_ | refine OpsDL.same ?_); first | refine oK c111 rfl rfl rfl ?_ | refine oK c112 rfl rfl rfl ?_) | refine MvQ.stay ?_)
                refine Exists.intro _ (Exists.intro _ (Exists.intro _ (And.intro rfl ?_)))
                (repeat' first | (refine Owe.same ?_; first | refine Owe.o ?_ | refine Owe.mk ?_ ?_) | (refine Fork.same ?_; (first | refine fkD ?_ ?_ | refine fkN ?_ ?_ | refine fkM ?_ ?_) <;> (intro h; try (exfalso; omega))) | refine MvQ.stay ?_)
                rw [pt_bad (rr := []) (hcut.trans (by rw [cutG_miss hm, List.nil_append])) hbt]
                (refine rqK rfl ?_; (repeat' first | exact rfl | (refine qS ?_; constructor)))
              · have hem : (bs a).data.toList = (ByteArray.mk #[]).data.toList ∨ ¬ (bs a).data.toList = (ByteArray.mk #[]).data.toList := Classical.em _
                rcases hem with hem | hem
                · refine Ops.yd rfl rfl rfl rfl rfl ?_
                  (repeat' first | (refine Owe.same ?_; first | refine Owe.o ?_ | refine Owe.mk ?_ ?_) | (refine Fork.same ?_; (first | refine fkD ?_ ?_ | refine fkN ?_ ?_ | refine fkM ?_ ?_) <;> (intro h; try (exfalso; omega))) | refine MvQ.stay ?_)
                  refine And.intro rfl (Exists.intro _ (And.intro rfl ?_))
                  (repeat' first | (refine Owe.same ?_; first | refine Owe.o ?_ | refine Owe.mk ?_ ?_) | (refine Fork.same ?_; (first | refine fkY ?_ | refine fkF ?_ | ((first | refine fkD ?_ ?_ | refine fkN ?_ ?_ | refine fkM ?_ ?_) <;> (intro h; try (exfalso; omega))))) | ((first | refine OpsL.same ?_ | refine OpsDL.same ?_); first | refine oK c111 rfl rfl rfl ?_ | refine oK c112 rfl rfl rfl ?_) | refine MvQ.stay ?_)
                  refine Exists.intro _ (Exists.intro _ (Exists.intro _ (And.intro rfl ?_)))
                  (repeat' first | (refine Owe.same ?_; first | refine Owe.o ?_ | refine Owe.mk ?_ ?_) | (refine Fork.same ?_; (first | refine fkD ?_ ?_ | refine fkN ?_ ?_ | refine fkM ?_ ?_) <;> (intro h; try (exfalso; omega))) | refine MvQ.stay ?_)
                  rw [pt_bad (rr := []) (hcut.trans (by rw [cutG_miss hm, List.nil_append])) hbt]
                  (refine rqK rfl ?_; (repeat' first | exact rfl | (refine qS ?_; constructor)))
                · refine Ops.yd rfl rfl rfl rfl rfl ?_
                  (repeat' first | (refine Owe.same ?_; first | refine Owe.o ?_ | refine Owe.mk ?_ ?_) | (refine Fork.same ?_; (first | refine fkD ?_ ?_ | refine fkN ?_ ?_ | refine fkM ?_ ?_) <;> (intro h; try (exfalso; omega))) | refine MvQ.stay ?_)
                  refine And.intro rfl (Exists.intro _ (And.intro rfl ?_))
                  (repeat' first | (refine Owe.same ?_; first | refine Owe.o ?_ | refine Owe.mk ?_ ?_) | (refine Fork.same ?_; (first | refine fkY ?_ | refine fkF ?_ | ((first | refine fkD ?_ ?_ | refine fkN ?_ ?_ | refine fkM ?_ ?_) <;> (intro h; try (exfalso; omega))))) | ((first | refine OpsL.same ?_ | refine OpsDL.same ?_); first | refine oK c111 rfl rfl rfl ?_ | refine oK c112 rfl rfl rfl ?_) | refine MvQ.stay ?_)
                  refine Exists.intro _ (Exists.intro _ (Exists.intro _ (And.intro rfl ?_)))
                  (repeat' first | (refine Owe.same ?_; first | refine Owe.o ?_ | refine Owe.mk ?_ ?_) | (refine Fork.same ?_; (first | refine fkD ?_ ?_ | refine fkN ?_ ?_ | refine fkM ?_ ?_) <;> (intro h; try (exfalso; omega))) | refine MvQ.stay ?_)
                  rw [pt_bad (rr := []) (hcut.trans (by rw [cutG_miss hm, List.nil_append])) hbt]
                  (refine rqK rfl ?_; (repeat' first | exact rfl | (refine qS ?_; constructor)))
      · exact absurd (by decide) h
    · have h124 := C249 (l := p ++ 59 :: r) (c := 59)
      rw [hi] at h124
      have hsz : (bs (p ++ 59 :: r)).size = p.length + r.length + 1 := by rw [bs_size]; simp; omega
      have hs1 : (ByteArray.mk #[59]).size = 1 := rfl
      (repeat' first | (refine Owe.same ?_; first | refine Owe.o ?_ | refine Owe.mk ?_ ?_) | (refine Fork.same ?_; (first | refine fkD ?_ ?_ | refine fkN ?_ ?_ | refine fkM ?_ ?_) <;> intro h) | ((first | refine OpsL.same ?_ | refine OpsDL.same ?_); first | refine pK h124 rfl rfl ?_) | refine MvQ.stay ?_)
      · omega
      · rw [show (bs (acc, p ++ 59 :: r).snd).size = _ from hsz]
        have hlp : p.length + r.length ≤ 1000000 := by simp at hlen; omega
        exact ob
      refine OpsL.as 40 (sv p) ?_ ?_
      · refine VEq.str ?_
        rw [cutB_bs]; simp
      have hlp : p.length + r.length ≤ 100000 := by simp at hlen; omega
      rcases ix_cases 32 p with ⟨hi2, hm2⟩ | ⟨a, b, hab, hm2, hi2⟩
      · have c111 := C111m hm2
        have c112 := C112n naL_nil (by simp) (by decide)
        have hbt : tkP p = none := by rw [tkP_of (show cutG 32 [] p = [p] by rw [cutG_miss hm2, List.nil_append])]; rfl
        refine Ops.yd rfl rfl rfl rfl rfl ?_
        (repeat' first | (refine Owe.same ?_; first | refine Owe.o ?_ | refine Owe.mk ?_ ?_) | (refine Fork.same ?_; (first | refine fkD ?_ ?_ | refine fkN ?_ ?_ | refine fkM ?_ ?_) <;> (intro h; try (exfalso; omega))) | refine MvQ.stay ?_)
        refine And.intro rfl (Exists.intro _ (And.intro rfl ?_))
        (repeat' first | (refine Owe.same ?_; first | refine Owe.o ?_ | refine Owe.mk ?_ ?_) | (refine Fork.same ?_; (first | refine fkY ?_ | refine fkF ?_ | ((first | refine fkD ?_ ?_ | refine fkN ?_ ?_ | refine fkM ?_ ?_) <;> (intro h; try (exfalso; omega))))) | ((first | refine OpsL.same ?_ | refine OpsDL.same ?_); first | refine oK c111 rfl rfl rfl ?_ | refine oK c112 rfl rfl rfl ?_) | refine MvQ.stay ?_)
        refine Exists.intro _ (Exists.intro _ (Exists.intro _ (And.intro rfl ?_)))
        (repeat' first | (refine Owe.same ?_; first | refine Owe.o ?_ | refine Owe.mk ?_ ?_) | (refine Fork.same ?_; (first | refine fkD ?_ ?_ | refine fkN ?_ ?_ | refine fkM ?_ ?_) <;> (intro h; try (exfalso; omega))) | refine MvQ.stay ?_)
        rw [pt_bad (hcut.trans (by rw [cutG_hit hm, List.nil_append])) hbt]
        (refine rqK rfl ?_; (repeat' first | exact rfl | (refine qS ?_; constructor)))
      · have hlq : a.length + b.length + 1 = p.length := by rw [hab]; simp [Nat.add_assoc]
        have c111 := C111h (c := 32) (p := a) (r := b) hm2 (by omega)
        rw [← hab] at c111
        have htk : tkP p = tkV a (cutG 32 [] b) := tkP_of (by rw [hab, cutG_hit hm2, List.nil_append])
        cases hn : naL 6 (cutG 32 [] b) with
        | none =>
          have c112 := C112n hn (by omega) (by decide)
          have hbt : tkP p = none := htk.trans (tkV_no hn)
          refine Ops.yd rfl rfl rfl rfl rfl ?_
          (repeat' first | (refine Owe.same ?_; first | refine Owe.o ?_ | refine Owe.mk ?_ ?_) | (refine Fork.same ?_; (first | refine fkD ?_ ?_ | refine fkN ?_ ?_ | refine fkM ?_ ?_) <;> (intro h; try (exfalso; omega))) | refine MvQ.stay ?_)
          refine And.intro rfl (Exists.intro _ (And.intro rfl ?_))
          (repeat' first | (refine Owe.same ?_; first | refine Owe.o ?_ | refine Owe.mk ?_ ?_) | (refine Fork.same ?_; (first | refine fkY ?_ | refine fkF ?_ | ((first | refine fkD ?_ ?_ | refine fkN ?_ ?_ | refine fkM ?_ ?_) <;> (intro h; try (exfalso; omega))))) | ((first | refine OpsL.same ?_ | refine OpsDL.same ?_); first | refine oK c111 rfl rfl rfl ?_ | refine oK c112 rfl rfl rfl ?_) | refine MvQ.stay ?_)
          refine Exists.intro _ (Exists.intro _ (Exists.intro _ (And.intro rfl ?_)))
          (repeat' first | (refine Owe.same ?_; first | refine Owe.o ?_ | refine Owe.mk ?_ ?_) | (refine Fork.same ?_; (first | refine fkD ?_ ?_ | refine fkN ?_ ?_ | refine fkM ?_ ?_) <;> (intro h; try (exfalso; omega))) | refine MvQ.stay ?_)
          rw [pt_bad (hcut.trans (by rw [cutG_hit hm, List.nil_append])) hbt]
          (refine rqK rfl ?_; (repeat' first | exact rfl | (refine qS ?_; constructor)))
        | some n =>
          have c112 := C112y hn (by omega) (by decide)
          by_cases hok : 7 ≤ n.length ∧ a ≠ []
          · have hbt : tkP p = some (mkT a n) := htk.trans (tkV_ok hn hok)
            have hne2 : ¬ (bs a).data.toList = (ByteArray.mk #[]).data.toList := fun h => hok.2 (by simpa [bs] using h)
            have hcc := cut_count (c := 32) (l := b) (acc := [])
            have hnl : n.length ≤ 1000001 := by have h1 := alL_len hn; omega
            have h7 := hok.1
            clear hcc hn htk
            refine Ops.yd rfl rfl rfl rfl rfl ?_
            (repeat' first | (refine Owe.same ?_; first | refine Owe.o ?_ | refine Owe.mk ?_ ?_) | (refine Fork.same ?_; (first | refine fkD ?_ ?_ | refine fkN ?_ ?_ | refine fkM ?_ ?_) <;> (intro h; try (exfalso; omega))) | refine MvQ.stay ?_)
            refine And.intro rfl (Exists.intro _ (And.intro rfl ?_))
            (repeat' first | (refine Owe.same ?_; first | refine Owe.o ?_ | refine Owe.mk ?_ ?_) | (refine Fork.same ?_; (first | refine fkY ?_ | refine fkF ?_ | ((first | refine fkD ?_ ?_ | refine fkN ?_ ?_ | refine fkM ?_ ?_) <;> (intro h; try (exfalso; omega))))) | ((first | refine OpsL.same ?_ | refine OpsDL.same ?_); first | refine oK c111 rfl rfl rfl ?_ | refine oK c112 rfl rfl rfl ?_) | refine MvQ.stay ?_)
            refine Exists.intro _ (Exists.intro _ (Exists.intro _ (And.intro rfl ?_)))
            (repeat' first | (refine Owe.same ?_; first | refine Owe.o ?_ | refine Owe.mk ?_ ?_) | (refine Fork.same ?_; (first | refine fkD ?_ ?_ | refine fkN ?_ ?_ | refine fkM ?_ ?_) <;> (intro h; try (exfalso; omega))) | refine MvQ.stay ?_)
            refine again (acc ++ [mkT a n], r) [30] ⟨by simp at hlen ⊢; omega, dn ++ [p], by rw [hcut, cutG_hit hm]; simp, by rw [alL_app hdn, hbt]⟩ (by simp; omega) ?_
            (refine qis ?_ ?_ <;> (repeat' first | exact rfl | (refine qS ?_; constructor)))
            · simp
            · refine CEq.str ?_
              have e : ((p.length : Int) + ((ByteArray.mk #[59]).size : Nat)).toNat = p.length + 1 := by rw [hs1]; omega
              rw [e]
              simp [bs]
            · exact ⟨mkT a n, rowT a n, rfl⟩
          · have hbt : tkP p = none := htk.trans (tkV_sm hn hok)
            by_cases h7 : 7 ≤ n.length
            · have hw0 : a = [] := by
                by_cases hw : a = []
                · exact hw
                · exact absurd ⟨h7, hw⟩ hok
              have he2 : (bs a).data.toList = (ByteArray.mk #[]).data.toList := by rw [hw0]
              refine Ops.yd rfl rfl rfl rfl rfl ?_
              (repeat' first | (refine Owe.same ?_; first | refine Owe.o ?_ | refine Owe.mk ?_ ?_) | (refine Fork.same ?_; (first | refine fkD ?_ ?_ | refine fkN ?_ ?_ | refine fkM ?_ ?_) <;> (intro h; try (exfalso; omega))) | refine MvQ.stay ?_)
              refine And.intro rfl (Exists.intro _ (And.intro rfl ?_))
              (repeat' first | (refine Owe.same ?_; first | refine Owe.o ?_ | refine Owe.mk ?_ ?_) | (refine Fork.same ?_; (first | refine fkY ?_ | refine fkF ?_ | ((first | refine fkD ?_ ?_ | refine fkN ?_ ?_ | refine fkM ?_ ?_) <;> (intro h; try (exfalso; omega))))) | ((first | refine OpsL.same ?_ | refine OpsDL.same ?_); first | refine oK c111 rfl rfl rfl ?_ | refine oK c112 rfl rfl rfl ?_) | refine MvQ.stay ?_)
              refine Exists.intro _ (Exists.intro _ (Exists.intro _ (And.intro rfl ?_)))
              (repeat' first | (refine Owe.same ?_; first | refine Owe.o ?_ | refine Owe.mk ?_ ?_) | (refine Fork.same ?_; (first | refine fkD ?_ ?_ | refine fkN ?_ ?_ | refine fkM ?_ ?_) <;> (intro h; try (exfalso; omega))) | refine MvQ.stay ?_)
              rw [pt_bad (hcut.trans (by rw [cutG_hit hm, List.nil_append])) hbt]
              (refine rqK rfl ?_; (repeat' first | exact rfl | (refine qS ?_; constructor)))
            · have hem : (bs a).data.toList = (ByteArray.mk #[]).data.toList ∨ ¬ (bs a).data.toList = (ByteArray.mk #[]).data.toList := Classical.em _
              rcases hem with hem | hem
              · refine Ops.yd rfl rfl rfl rfl rfl ?_
                (repeat' first | (refine Owe.same ?_; first | refine Owe.o ?_ | refine Owe.mk ?_ ?_) | (refine Fork.same ?_; (first | refine fkD ?_ ?_ | refine fkN ?_ ?_ | refine fkM ?_ ?_) <;> (intro h; try (exfalso; omega))) | refine MvQ.stay ?_)
                refine And.intro rfl (Exists.intro _ (And.intro rfl ?_))
                (repeat' first | (refine Owe.same ?_; first | refine Owe.o ?_ | refine Owe.mk ?_ ?_) | (refine Fork.same ?_; (first | refine fkY ?_ | refine fkF ?_ | ((first | refine fkD ?_ ?_ | refine fkN ?_ ?_ | refine fkM ?_ ?_) <;> (intro h; try (exfalso; omega))))) | ((first | refine OpsL.same ?_ | refine OpsDL.same ?_); first | refine oK c111 rfl rfl rfl ?_ | refine oK c112 rfl rfl rfl ?_) | refine MvQ.stay ?_)
                refine Exists.intro _ (Exists.intro _ (Exists.intro _ (And.intro rfl ?_)))
                (repeat' first | (refine Owe.same ?_; first | refine Owe.o ?_ | refine Owe.mk ?_ ?_) | (refine Fork.same ?_; (first | refine fkD ?_ ?_ | refine fkN ?_ ?_ | refine fkM ?_ ?_) <;> (intro h; try (exfalso; omega))) | refine MvQ.stay ?_)
                rw [pt_bad (hcut.trans (by rw [cutG_hit hm, List.nil_append])) hbt]
                (refine rqK rfl ?_; (repeat' first | exact rfl | (refine qS ?_; constructor)))
              · refine Ops.yd rfl rfl rfl rfl rfl ?_
                (repeat' first | (refine Owe.same ?_; first | refine Owe.o ?_ | refine Owe.mk ?_ ?_) | (refine Fork.same ?_; (first | refine fkD ?_ ?_ | refine fkN ?_ ?_ | refine fkM ?_ ?_) <;> (intro h; try (exfalso; omega))) | refine MvQ.stay ?_)
                refine And.intro rfl (Exists.intro _ (And.intro rfl ?_))
                (repeat' first | (refine Owe.same ?_; first | refine Owe.o ?_ | refine Owe.mk ?_ ?_) | (refine Fork.same ?_; (first | refine fkY ?_ | refine fkF ?_ | ((first | refine fkD ?_ ?_ | refine fkN ?_ ?_ | refine fkM ?_ ?_) <;> (intro h; try (exfalso; omega))))) | ((first | refine OpsL.same ?_ | refine OpsDL.same ?_); first | refine oK c111 rfl rfl rfl ?_ | refine oK c112 rfl rfl rfl ?_) | refine MvQ.stay ?_)
                refine Exists.intro _ (Exists.intro _ (Exists.intro _ (And.intro rfl ?_)))
                (repeat' first | (refine Owe.same ?_; first | refine Owe.o ?_ | refine Owe.mk ?_ ?_) | (refine Fork.same ?_; (first | refine fkD ?_ ?_ | refine fkN ?_ ?_ | refine fkM ?_ ?_) <;> (intro h; try (exfalso; omega))) | refine MvQ.stay ?_)
                rw [pt_bad (hcut.trans (by rw [cutG_hit hm, List.nil_append])) hbt]
                (refine rqK rfl ?_; (repeat' first | exact rfl | (refine qS ?_; constructor)))
theorem dec_len_le : ∀ (k u : Nat), u < 10 ^ (k + 1) → (decDigits u).length ≤ k + 1
  | 0, u, h => by rw [decDigits_one (by simpa using h)]; simp
  | k + 1, u, h => by
    by_cases h1 : u < 10
    · rw [decDigits_one h1]; simp
    · rw [dec_big h1, List.length_append]
      have := dec_len_le k (u / 10) (by rw [Nat.pow_succ] at h; omega)
      simp; omega
theorem ntV_it {n : Int} (k : Nat) {d : Int} (hd : d ≤ 18) (hk : ((k + 1 : Nat) : Int) ≤ d) (h0 : 0 ≤ n) (h : n.natAbs < 10 ^ (k + 1)) : ntV d (itoa n) = some n :=
  ntV_some ((numV_iff hd).2 ⟨rfl, by have := dec_len_le k _ h; omega⟩) h0
theorem naL_wd {d : Int} {l : List Int} (h : ∀ n ∈ l, ntV d (itoa n) = some n) : naL d (wdL l) = some l := by
  have e : naL d (wdL l) = alL (ntV d) (l.map itoa) := rfl
  rw [e]; exact alL_map h
theorem no32 (n : Int) : (32 : UInt8) ∉ itoa n := itoa_no (by decide)
theorem cut_wd {l : List Int} (h : l ≠ []) : cutG 32 [] (wdS l) = wdL l := cut_jn (by simpa using h) (fun x hx => by
  obtain ⟨n, _, rfl⟩ := List.mem_map.1 hx
  exact no32 n)
theorem jn_no {c d : UInt8} (hcd : c ≠ d) : ∀ {l : List By}, (∀ x ∈ l, d ∉ x) → d ∉ jnG c l
  | [], _ => by simp [jnG]
  | [x], h => h x (by simp)
  | x :: y :: r, h => by
    rw [jn_cons (by simp), List.mem_append, List.mem_cons]
    intro hh
    rcases hh with h1 | h1 | h1
    · exact h x (by simp) h1
    · exact hcd h1.symm
    · exact jn_no hcd (fun z hz => h z (List.mem_cons_of_mem _ hz)) h1
theorem wd_no {c : UInt8} (hc : (32 : UInt8) ≠ c ∧ c ≠ 45 ∧ ¬ isDg c) (l : List Int) : c ∉ wdS l := jn_no hc.1 (fun x hx => by
  obtain ⟨n, _, rfl⟩ := List.mem_map.1 hx
  exact itoa_no hc.2)
theorem ppE_S {l : List Int} (h : ∀ n ∈ l, 0 ≤ n ∧ n ≤ 99) (hs : (wdS l).length ≤ 60000) : ppE (wdS l) = (l, 0) := by
  by_cases hl : l = []
  · subst hl; rfl
  have hc : naL 2 (cutG 32 [] (wdS l)) = some l := by
    rw [cut_wd hl]
    exact naL_wd fun n hn => ntV_it 1 (by decide) (by decide) (h n hn).1 (show n.natAbs < 100 by have := h n hn; omega)
  have hne : wdS l ≠ [] := fun e => by
    rw [e] at hc
    have h1 : naL 2 (cutG 32 [] []) = none := rfl
    rw [h1] at hc; cases hc
  unfold ppE
  rw [if_neg (by omega), if_neg hne, hc]
structure StR (q : St8) : Prop where
  p : 0 ≤ q.p ∧ q.p ≤ 100000000
  t : 0 ≤ q.t ∧ q.t ≤ 100000000
  w : 0 ≤ q.w ∧ q.w ≤ 100000000
  o : 0 ≤ q.o ∧ q.o ≤ 100000000
  d : ∀ n ∈ q.d, 0 ≤ n ∧ n ≤ 100000000
theorem nt9 {n : Int} (h : 0 ≤ n ∧ n ≤ 100000000) : ntV 9 (itoa n) = some n := ntV_it 8 (by decide) (by decide) h.1 (show n.natAbs < 1000000000 by omega)
theorem sdE_S {q : St8} (h : StR q) (hs : (stS q).length ≤ 60000) : sdE (stS q) = (q, 0) := by
  have h1 : (47 : UInt8) ∉ wdS [q.p, q.t, q.w, q.o] := wd_no (by decide) _
  have h2 : (47 : UInt8) ∉ wdS q.d := wd_no (by decide) _
  have hc : cutG 47 [] (stS q) = [wdS [q.p, q.t, q.w, q.o], wdS q.d] := by
    rw [stS, cutG_hit h1, cutG_miss h2]; rfl
  have ha : naL 9 (cutG 32 [] (wdS [q.p, q.t, q.w, q.o])) = some [q.p, q.t, q.w, q.o] := by
    rw [cut_wd (by simp)]
    exact naL_wd fun n hn => nt9 (by
      have := h.p; have := h.t; have := h.w; have := h.o
      simp only [List.mem_cons, List.not_mem_nil, or_false] at hn
      rcases hn with rfl | rfl | rfl | rfl <;> omega)
  rw [sdE_two (by omega) hc, ha]
  by_cases hd : q.d = []
  · obtain ⟨p, t, w, o, d⟩ := q
    simp only at hd
    subst hd; rfl
  · have hb : naL 9 (cutG 32 [] (wdS q.d)) = some q.d := by
      rw [cut_wd hd]; exact naL_wd fun n hn => nt9 (h.d n hn)
    have hne : wdS q.d ≠ [] := fun e => by
      rw [e] at hb
      have h1 : naL 9 (cutG 32 [] []) = none := rfl
      rw [h1] at hb; cases hb
    show sdV [q.p, q.t, q.w, q.o] (wdS q.d) = _
    unfold sdV
    simp only
    rw [if_neg hne, hb]
theorem asc_len {l : List Int} {b : Nat} (h : (ascE l b).2 = 0) : (∀ n ∈ l, 0 ≤ n ∧ n ≤ (b : Int) - 1) := fun n hn => by
  obtain ⟨i, hi, rfl⟩ := List.getElem_of_mem hn
  rw [ascE, eachN_ok] at h
  have := h i hi
  rw [ascN, fst2, unl0 (by decide), List.getD_eq_getElem?_getD, List.getElem?_eq_getElem hi] at this
  exact this.1
theorem tsE_ok {l : List Tk} (h : (tsE l).2 = 0) : l.length ≤ 6 ∧ ∀ i, i < l.length → nmP (l.getD i tk0).n ∧ ∀ n ∈ tkN (l.getD i tk0), 0 ≤ n ∧ n ≤ 100000 := by
  have h8 : l.length ≤ 6 := by
    rw [tsE] at h
    split at h
    · cases h
    · omega
  have h9 : ∀ i, i < l.length → tkE l i = 0 := by
    rw [tsE, if_neg (by omega)] at h
    exact eachN_ok.1 h
  refine ⟨h8, fun i hi => ?_⟩
  have a1 := h9 i hi
  rw [tkE] at a1
  split at a1
  · rename_i a3
    rw [tkF, fst4, tksE, fst2, unl0 (by decide), unb_ok (by decide), unb_ok (by decide), unl0 (by decide), unl0 (by decide), Bool.and_eq_true, decide_eq_true_eq] at a3
    obtain ⟨b1, b2, b3, b4, b5⟩ := a3
    have b6 := oddI_f ((Bool.not_eq_true' _).mp b3.2)
    refine ⟨b1, fun n hn => ?_⟩
    have c0 : isN (l.getD i tk0).d := b6 0
    have c1 : isN (l.getD i tk0).w := b6 1
    have c2 : isN (l.getD i tk0).o := b6 2
    have c3 : isN (l.getD i tk0).v := b6 3
    have c4 := b3.1
    have c5 := b4.1
    have c6 := b4.2
    rw [tkN, List.mem_append] at hn
    rcases hn with hn | hn
    · simp only [isN, isT] at c0 c1 c2 c3 c5 c6
      simp only [List.mem_cons, List.not_mem_nil, or_false] at hn
      rcases hn with rfl | rfl | rfl | rfl | rfl | rfl | rfl <;> omega
    · have := asc_len a1 n hn
      omega
  · rename_i a3; exact absurd a1 a3
theorem nm_no {n : ByteArray} (h : nmP n) {c : UInt8} (hc : c = 32 ∨ c = 59) : c ∉ n.data.toList := fun hm => by
  obtain ⟨i, hi, he⟩ := List.getElem_of_mem hm
  have hl : n.data.toList.length = n.size := Array.length_toList
  have := h.1 i (by omega)
  have e : nmI n i = (c.toNat : Int) := by
    show ((n.data.toList.getD i 0).toNat : Int) = _
    rw [List.getD_eq_getElem?_getD, List.getElem?_eq_getElem hi, ← he]; rfl
  rw [e] at this
  rcases hc with rfl | rfl
  · have e2 : ((32 : UInt8).toNat : Int) = 32 := rfl
    rw [e2] at this
    simp only [chP] at this; omega
  · have e2 : ((59 : UInt8).toNat : Int) = 59 := rfl
    rw [e2] at this
    simp only [chP] at this; omega
theorem mkT_S (t : Tk) : mkT (tkB t) (tkN t) = t := by
  obtain ⟨n, p, d, w, o, v, lo, hi, a⟩ := t
  show Tk.mk (bs n.data.toList) p d w o v lo hi a = _
  rw [bs_eta]
theorem tkP_S {t : Tk} (h1 : nmP t.n) (h2 : ∀ n ∈ tkN t, 0 ≤ n ∧ n ≤ 100000) : tkP (tkS t) = some t := by
  have h32 := nm_no h1 (c := 32) (.inl rfl)
  have hl := tkN_len t
  have hc : cutG 32 [] (tkS t) = tkB t :: wdL (tkN t) := by
    rw [tkS, cutG_hit h32, cut_wd (fun e => by rw [e, List.length_nil] at hl; omega)]; rfl
  have hn : naL 6 (wdL (tkN t)) = some (tkN t) := naL_wd fun n hn => ntV_it 5 (by decide) (by decide) (h2 n hn).1 (show n.natAbs < 1000000 by have := h2 n hn; omega)
  have hne : tkB t ≠ [] := fun e => by
    have h3 : (tkB t).length = t.n.size := Array.length_toList
    rw [e, List.length_nil] at h3
    have := h1.2.1; omega
  rw [tkP_of hc, tkV_ok hn ⟨by omega, hne⟩, mkT_S]
theorem ptE_S {l : List Tk} (h : (tsE l).2 = 0) (hs : (tsS l).length ≤ 60000) : ptE (tsS l) = (l, 0) := by
  by_cases hl : l = []
  · subst hl; rfl
  obtain ⟨h8, hO⟩ := tsE_ok h
  have hT : ∀ t ∈ l, nmP t.n ∧ ∀ n ∈ tkN t, 0 ≤ n ∧ n ≤ 100000 := fun t ht => by
    obtain ⟨i, hi, rfl⟩ := List.getElem_of_mem ht
    have := hO i hi
    rw [List.getD_eq_getElem?_getD, List.getElem?_eq_getElem hi] at this
    exact this
  have hc : cutG 59 [] (tsS l) = l.map tkS := cut_jn (by simpa using hl) (fun x hx => by
    obtain ⟨t, ht, rfl⟩ := List.mem_map.1 hx
    rw [tkS, List.mem_append, List.mem_cons]
    rintro (h1 | h1 | h1)
    · exact nm_no (hT t ht).1 (.inr rfl) h1
    · exact absurd h1 (by decide)
    · exact wd_no (by decide) _ h1)
  have ha : alL tkP (l.map tkS) = some l := alL_map fun t ht => tkP_S (hT t ht).1 (hT t ht).2
  have hne : tsS l ≠ [] := fun e => by
    rw [e] at hc
    have h1 : alL tkP (cutG 59 [] []) = none := rfl
    rw [hc, ha] at h1; cases h1
  unfold ptE
  rw [if_neg (by omega), if_neg hne]
  unfold ptV
  rw [hc, ha]
  exact if_pos h
end Go.Pw
set_option linter.unusedSimpArgs false
set_option linter.unusedVariables false
set_option maxHeartbeats 4000000
namespace Go.Pw
open Go.RowKit Go.Lib
set_option maxRecDepth 2000
open Go Go.Proofs A1 A2 A3 A4
theorem same_rf (a : St8) : sameB a a = true := decide_eq_true ⟨rfl, rfl, rfl, rfl, rfl⟩
theorem st_len {q : St8} (h : St64 q) (hd : q.d.length ≤ 8) : (stS q).length ≤ 1000 := by
  have z1 := wd_len (i64_4 h.p h.t h.w h.o)
  have z2 := wd_len h.d
  rw [stS, List.length_append, List.length_cons]
  have e : [q.p, q.t, q.w, q.o].length = 4 := rfl
  omega
theorem sd_len {s : By} (hs : s.length ≤ 100000) : (sdE s).1.d.length ≤ 1000000 := by
  unfold sdE
  split
  · simp
  · split
    · rename_i a b hab
      split
      · rename_i q hq
        unfold sdV
        split
        · split
          · simp
          · split
            · rename_i d hd
              have h1 := alL_len hd
              have h2 := cut_count (c := 32) (l := b) (acc := [])
              have h3 := cut_len (c := 47) (l := s) (acc := []) b (by rw [hab]; simp)
              simp at h3
              simp only; omega
            · simp
        · simp
      · simp
    · simp
theorem pp_len {s : By} (hs : s.length ≤ 100000) : (ppE s).1.length ≤ 1000000 := by
  unfold ppE
  split
  · simp
  · split
    · simp
    · split
      · simp
      · rename_i v hv
        have h1 := alL_len hv
        have h2 := cut_count (c := 32) (l := s) (acc := [])
        simp only; omega
theorem pt_sm {s : By} (hs : s.length ≤ 100000) : (ptE s).1.length ≤ 1000000 ∧ TkSm (ptE s).1 := by
  have h0 : ([] : List Tk).length ≤ 1000000 ∧ TkSm [] := ⟨by simp, fun i hi => absurd hi (Nat.not_lt_zero _)⟩
  unfold ptE
  split
  · exact h0
  · split
    · exact h0
    · unfold ptV
      split
      · exact h0
      · rename_i l hl
        split
        · refine ⟨?_, ts_sm hs (fun x hx => by have := cut_len x hx; simp at this; omega) hl⟩
          have h1 := alL_len hl
          have h2 := cut_count (c := 59) (l := s) (acc := [])
          simp only; omega
        · exact h0
abbrev rdyP (t : St8) : Prop := (0 ≤ t.p ∧ t.p ≤ 5) ∧ (0 ≤ t.t ∧ t.t ≤ 100000) ∧ (0 ≤ t.w ∧ t.w ≤ 100000000) ∧ 0 ≤ t.o ∧ t.o ≤ 10000
theorem C4 {l : List Tk} {t : St8} {s : By} (hl : ∀ x ∈ l, ∀ n ∈ tkN x, i64P n) (h1 : i64P t.p) (h2 : i64P t.t) (h3 : i64P t.w) (h4 : i64P t.o) (h5 : ∀ n ∈ t.d, i64P n) : PFD Tryz.prog 4 [.c (tks l), stv t, sv s] (vbl true) := by
  have hsz : (bs s).size = s.length := bs_size s
  have c24 := C24
  have c25 := C25 (l := l)
  have c26 := C26 (t := t)
  by_cases g1 : fewT l
  · rw [decide_eq_true g1] at c25
    by_cases g2 : (t.d.length : Int) ≤ 8
    · rw [decide_eq_true g2] at c26
      by_cases g3 : (s.length : Int) ≤ 200 ∨ (60000 < (s.length : Int) ∧ (s.length : Int) ≤ 60010)
      · have hll : l.length ≤ 8 := by have := g1.1; omega
        have hsm : TkSm l := fun i hi => by have := g1.2 i hi; omega
        have hk : ∀ x ∈ l, Tk64 x := fun x hx => by
          obtain ⟨i, hi, rfl⟩ := List.getElem_of_mem hx
          have := g1.2 i hi
          rw [List.getD_eq_getElem?_getD, List.getElem?_eq_getElem hi] at this
          simp only [Option.getD_some] at this
          exact ⟨by omega, by omega, hl _ hx⟩
        have ht : St64 t := ⟨by omega, h1, h2, h3, h4, h5⟩
        have k1 := ts_len hk
        have k2 := st_len ht (by omega)
        have k3 := wd_len h5
        have c28 := C28 (l := l) ⟨by omega, hsm⟩
        have c27 := C27 (l := l) ⟨by omega, hk⟩
        have c39 := C39 (l := l) ⟨by omega, hk⟩
        have c30 := C30 (t := t) (by omega)
        have c29 := C29 ht
        have c40 := C40 ht
        have c32 := C32 (l := t.d) (by omega)
        have c31 := C31 (l := t.d) ⟨by omega, h5⟩
        have c41 := C41 (l := t.d) ⟨by omega, h5⟩
        have c33 := C33 (s := s) (by omega)
        have c34 := C34 (s := s) (by omega)
        have c35 := C35 (s := s) (by omega)
        have c36 := C36 (s := s) (by omega)
        have c37 := C37 (s := s) (by omega)
        have c38 := C38 (s := s) (by omega)
        have c42 := C42 (l := (ptE s).1) (pt_sm (by omega))
        have c43 := C43 (a := (sdE s).1) (b := (sdE s).1) (by have := sd_len (s := s) (by omega); omega)
        have c44 := C44 (l := (ppE s).1) (m := (ppE s).1) (by have := pp_len (s := s) (by omega); omega)
        rw [same_rf] at c43
        rw [decide_eq_true rfl] at c44
        have c45 := C45 (l := l) ⟨by omega, hsm⟩
        have d33 := C33 (s := tsS l) (by omega)
        have d34 := C34 (s := stS t) (by omega)
        have d35 := C35 (s := wdS t.d) (by omega)
        have p1 : (tsE l).2 = 0 → ptE (tsS l) = (l, 0) := fun h => ptE_S h (by omega)
        have p2 : rdyP t → (∀ i, i < t.d.length → 0 ≤ t.d.getD i 0 ∧ t.d.getD i 0 ≤ 6) → sdE (stS t) = (t, 0) := fun h h2 => sdE_S ⟨by omega, by omega, by omega, by omega, fun n hn => by
          obtain ⟨i, hi, rfl⟩ := List.getElem_of_mem hn
          have := h2 i hi
          rw [List.getD_eq_getElem?_getD, List.getElem?_eq_getElem hi] at this
          simp only [Option.getD_some] at this
          omega⟩ (by omega)
        have p3 : (∀ i, i < t.d.length → 0 ≤ t.d.getD i 0 ∧ t.d.getD i 0 ≤ 6) → ppE (wdS t.d) = (t.d, 0) := fun h2 => ppE_S (fun n hn => by
          obtain ⟨i, hi, rfl⟩ := List.getElem_of_mem hn
          have := h2 i hi
          rw [List.getD_eq_getElem?_getD, List.getElem?_eq_getElem hi] at this
          simp only [Option.getD_some] at this
          omega) (by omega)
        have c42l := C42 (l := l) ⟨by omega, hsm⟩
        have c43t := C43 (a := t) (b := t) (by omega)
        have c44t := C44 (l := t.d) (m := t.d) (by omega)
        rw [same_rf] at c43t
        rw [decide_eq_true rfl] at c44t
        generalize tsS l = A at *
        generalize stS t = B at *
        generalize wdS t.d = E at *
        generalize ptE s = Y at *
        generalize sdE s = Z at *
        generalize ppE s = X at *
        obtain ⟨Y, y⟩ := Y
        obtain ⟨Z, z⟩ := Z
        obtain ⟨X, x⟩ := X
        have g1 := Hd.mk g1
        have hsm := Hd.mk hsm
        have hk := Hd.mk hk
        clear ht k1 k2 k3 hl h1 h2 h3 h4 h5
        by_cases e1 : (tsE l).2 = 0
        · rw [p1 e1] at d33
          rw [e1] at c45
          clear p1
          have hq := Hd.mk p2
          have c46p := C46 (n := t.p) (lo := 0) (hi := 5)
          have c46t := C46 (n := t.t) (lo := 0) (hi := 100000)
          have c46w := C46 (n := t.w) (lo := 0) (hi := 100000000)
          have c46o := C46 (n := t.o) (lo := 0) (hi := 10000)
          by_cases q1 : 0 ≤ t.p ∧ t.p ≤ 5
          · rw [wi, decide_eq_true q1] at c46p
            by_cases q2 : 0 ≤ t.t ∧ t.t ≤ 100000
            · rw [wi, decide_eq_true q2] at c46t
              by_cases q3 : 0 ≤ t.w ∧ t.w ≤ 100000000
              · rw [wi, decide_eq_true q3] at c46w
                by_cases q4 : 0 ≤ t.o ∧ t.o ≤ 10000
                · rw [wi, decide_eq_true q4] at c46o
                  have hr : rdyP t := ⟨q1, q2, q3, q4⟩
                  rcases g3 with g3 | g3
                  · refine pi1 fn4 ?_
                    (repeat' first | (refine Owe.same ?_; first | refine Owe.o ?_ | refine Owe.mk ?_ ?_) | (refine Fork.same ?_; (first | refine fkY ?_ | refine fkF ?_ | ((first | refine fkD ?_ ?_ | refine fkN ?_ ?_ | refine fkM ?_ ?_) <;> intro h))) | ((first | refine OpsL.same ?_ | refine OpsDL.same ?_); first | refine oK c24 rfl rfl rfl ?_ | refine oK c25 rfl rfl rfl ?_ | refine oK c26 rfl rfl rfl ?_ | refine oK c28 rfl rfl rfl ?_ | refine oK c27 rfl rfl rfl ?_ | refine oK c30 rfl rfl rfl ?_ | refine oK c29 rfl rfl rfl ?_ | refine oK c32 rfl rfl rfl ?_ | refine oK c31 rfl rfl rfl ?_ | refine oK c33 rfl rfl rfl ?_ | refine oK c34 rfl rfl rfl ?_ | refine oK c35 rfl rfl rfl ?_ | refine oK c36 rfl rfl rfl ?_ | refine oK c37 rfl rfl rfl ?_ | refine oK c38 rfl rfl rfl ?_ | refine oK c39 rfl rfl rfl ?_ | refine oK c40 rfl rfl rfl ?_ | refine oK c41 rfl rfl rfl ?_ | refine oK c42 rfl rfl rfl ?_ | refine oK c43 rfl rfl rfl ?_ | refine oK c44 rfl rfl rfl ?_ | refine oK c45 rfl rfl rfl ?_ | refine oK d33 rfl rfl rfl ?_ | refine oK c42l rfl rfl rfl ?_ | refine oK c46p rfl rfl rfl ?_ | refine oK c46t rfl rfl rfl ?_ | refine oK c46w rfl rfl rfl ?_ | refine oK c46o rfl rfl rfl ?_) | refine MvQ.stay ?_)
                    refine Sat.lp (fun k : Nat => ⟨[(26, vi .i64 (k : Int)), (4, .c (.rp (stD t))), (8, sv B), (9, sv E)], [], 0⟩)
                      (fun k => k ≤ t.d.length ∧ ∀ i, i < k → 0 ≤ t.d.getD i 0 ∧ t.d.getD i 0 ≤ 6) (fun k => t.d.length - k) 0 [] ⟨Nat.zero_le _, fun i hi => absurd hi (Nat.not_lt_zero _)⟩ ?_ ?_
                    · (refine qis ?_ ?_ <;> (repeat' first | exact rfl | (refine qS ?_; constructor)))
                    · rintro k ⟨hk1, hk2⟩
                      refine Fork.dec (fun hlt => ?_) (fun hlt => ?_)
                      · have hlt : k < t.d.length := by have : (k : Int) < t.d.length := hlt; omega
                        have c46 := C46 (n := t.d.getD (k : Int).toNat 0) (lo := 0) (hi := 6)
                        by_cases hw : 0 ≤ t.d.getD k 0 ∧ t.d.getD k 0 ≤ 6
                        · rw [wi, decide_eq_true (show 0 ≤ t.d.getD (k : Int).toNat 0 ∧ t.d.getD (k : Int).toNat 0 ≤ 6 from hw)] at c46
                          (repeat' first | (refine Owe.same ?_; first | refine Owe.o ?_ | refine Owe.mk ?_ ?_) | (refine Fork.same ?_; (first | refine fkY ?_ | refine fkF ?_ | ((first | refine fkD ?_ ?_ | refine fkN ?_ ?_ | refine fkM ?_ ?_) <;> intro h))) | ((first | refine OpsL.same ?_ | refine OpsDL.same ?_); first | refine oK c46 rfl rfl rfl ?_) | refine MvQ.stay ?_)
                          refine again (k + 1) [] ⟨hlt, fun i hi => ?_⟩ (by omega) ?_
                          · rcases Nat.lt_succ_iff_lt_or_eq.1 hi with h | rfl
                            · exact hk2 i h
                            · exact hw
                          · (refine qis ?_ ?_ <;> (repeat' first | exact rfl | (refine qS ?_; constructor)))
                        · rw [wi, decide_eq_false (show ¬ (0 ≤ t.d.getD (k : Int).toNat 0 ∧ t.d.getD (k : Int).toNat 0 ≤ 6) from hw)] at c46
                          (repeat' first | (refine Owe.same ?_; first | refine Owe.o ?_ | refine Owe.mk ?_ ?_) | (refine Fork.same ?_; (first | refine fkY ?_ | refine fkF ?_ | ((first | refine fkD ?_ ?_ | refine fkN ?_ ?_ | refine fkM ?_ ?_) <;> intro h))) | ((first | refine OpsL.same ?_ | refine OpsDL.same ?_); first | refine oK c46 rfl rfl rfl ?_) | refine MvQ.stay ?_)
                          (refine rqK rfl ?_; (repeat' first | exact rfl | (refine qS ?_; constructor)))
                      · have hk3 : k = t.d.length := by have : ¬ (k : Int) < t.d.length := hlt; omega
                        rw [hk3] at hk2
                        rw [p2 hr hk2] at d34
                        rw [p3 hk2] at d35
                        (repeat' first | (refine Owe.same ?_; first | refine Owe.o ?_ | refine Owe.mk ?_ ?_) | (refine Fork.same ?_; (first | refine fkY ?_ | refine fkF ?_ | ((first | refine fkD ?_ ?_ | refine fkN ?_ ?_ | refine fkM ?_ ?_) <;> intro h))) | ((first | refine OpsL.same ?_ | refine OpsDL.same ?_); first | refine oK d34 rfl rfl rfl ?_ | refine oK d35 rfl rfl rfl ?_ | refine oK c43t rfl rfl rfl ?_ | refine oK c44t rfl rfl rfl ?_) | refine MvQ.stay ?_)
                        (refine rqK rfl ?_; (repeat' first | exact rfl | (refine qS ?_; constructor)))
                  · refine pi1 fn4 ?_
                    (repeat' first | (refine Owe.same ?_; first | refine Owe.o ?_ | refine Owe.mk ?_ ?_) | (refine Fork.same ?_; (first | refine fkY ?_ | refine fkF ?_ | ((first | refine fkD ?_ ?_ | refine fkN ?_ ?_ | refine fkM ?_ ?_) <;> intro h))) | ((first | refine OpsL.same ?_ | refine OpsDL.same ?_); first | refine oK c24 rfl rfl rfl ?_ | refine oK c25 rfl rfl rfl ?_ | refine oK c26 rfl rfl rfl ?_ | refine oK c28 rfl rfl rfl ?_ | refine oK c27 rfl rfl rfl ?_ | refine oK c30 rfl rfl rfl ?_ | refine oK c29 rfl rfl rfl ?_ | refine oK c32 rfl rfl rfl ?_ | refine oK c31 rfl rfl rfl ?_ | refine oK c33 rfl rfl rfl ?_ | refine oK c34 rfl rfl rfl ?_ | refine oK c35 rfl rfl rfl ?_ | refine oK c36 rfl rfl rfl ?_ | refine oK c37 rfl rfl rfl ?_ | refine oK c38 rfl rfl rfl ?_ | refine oK c39 rfl rfl rfl ?_ | refine oK c40 rfl rfl rfl ?_ | refine oK c41 rfl rfl rfl ?_ | refine oK c42 rfl rfl rfl ?_ | refine oK c43 rfl rfl rfl ?_ | refine oK c44 rfl rfl rfl ?_ | refine oK c45 rfl rfl rfl ?_ | refine oK d33 rfl rfl rfl ?_ | refine oK c42l rfl rfl rfl ?_ | refine oK c46p rfl rfl rfl ?_ | refine oK c46t rfl rfl rfl ?_ | refine oK c46w rfl rfl rfl ?_ | refine oK c46o rfl rfl rfl ?_) | refine MvQ.stay ?_)
                    refine Sat.lp (fun k : Nat => ⟨[(26, vi .i64 (k : Int)), (4, .c (.rp (stD t))), (8, sv B), (9, sv E)], [], 0⟩)
                      (fun k => k ≤ t.d.length ∧ ∀ i, i < k → 0 ≤ t.d.getD i 0 ∧ t.d.getD i 0 ≤ 6) (fun k => t.d.length - k) 0 [] ⟨Nat.zero_le _, fun i hi => absurd hi (Nat.not_lt_zero _)⟩ ?_ ?_
                    · (refine qis ?_ ?_ <;> (repeat' first | exact rfl | (refine qS ?_; constructor)))
                    · rintro k ⟨hk1, hk2⟩
                      refine Fork.dec (fun hlt => ?_) (fun hlt => ?_)
                      · have hlt : k < t.d.length := by have : (k : Int) < t.d.length := hlt; omega
                        have c46 := C46 (n := t.d.getD (k : Int).toNat 0) (lo := 0) (hi := 6)
                        by_cases hw : 0 ≤ t.d.getD k 0 ∧ t.d.getD k 0 ≤ 6
                        · rw [wi, decide_eq_true (show 0 ≤ t.d.getD (k : Int).toNat 0 ∧ t.d.getD (k : Int).toNat 0 ≤ 6 from hw)] at c46
                          (repeat' first | (refine Owe.same ?_; first | refine Owe.o ?_ | refine Owe.mk ?_ ?_) | (refine Fork.same ?_; (first | refine fkY ?_ | refine fkF ?_ | ((first | refine fkD ?_ ?_ | refine fkN ?_ ?_ | refine fkM ?_ ?_) <;> intro h))) | ((first | refine OpsL.same ?_ | refine OpsDL.same ?_); first | refine oK c46 rfl rfl rfl ?_) | refine MvQ.stay ?_)
                          refine again (k + 1) [] ⟨hlt, fun i hi => ?_⟩ (by omega) ?_
                          · rcases Nat.lt_succ_iff_lt_or_eq.1 hi with h | rfl
                            · exact hk2 i h
                            · exact hw
                          · (refine qis ?_ ?_ <;> (repeat' first | exact rfl | (refine qS ?_; constructor)))
                        · rw [wi, decide_eq_false (show ¬ (0 ≤ t.d.getD (k : Int).toNat 0 ∧ t.d.getD (k : Int).toNat 0 ≤ 6) from hw)] at c46
                          (repeat' first | (refine Owe.same ?_; first | refine Owe.o ?_ | refine Owe.mk ?_ ?_) | (refine Fork.same ?_; (first | refine fkY ?_ | refine fkF ?_ | ((first | refine fkD ?_ ?_ | refine fkN ?_ ?_ | refine fkM ?_ ?_) <;> intro h))) | ((first | refine OpsL.same ?_ | refine OpsDL.same ?_); first | refine oK c46 rfl rfl rfl ?_) | refine MvQ.stay ?_)
                          (refine rqK rfl ?_; (repeat' first | exact rfl | (refine qS ?_; constructor)))
                      · have hk3 : k = t.d.length := by have : ¬ (k : Int) < t.d.length := hlt; omega
                        rw [hk3] at hk2
                        rw [p2 hr hk2] at d34
                        rw [p3 hk2] at d35
                        (repeat' first | (refine Owe.same ?_; first | refine Owe.o ?_ | refine Owe.mk ?_ ?_) | (refine Fork.same ?_; (first | refine fkY ?_ | refine fkF ?_ | ((first | refine fkD ?_ ?_ | refine fkN ?_ ?_ | refine fkM ?_ ?_) <;> intro h))) | ((first | refine OpsL.same ?_ | refine OpsDL.same ?_); first | refine oK d34 rfl rfl rfl ?_ | refine oK d35 rfl rfl rfl ?_ | refine oK c43t rfl rfl rfl ?_ | refine oK c44t rfl rfl rfl ?_) | refine MvQ.stay ?_)
                        (refine rqK rfl ?_; (repeat' first | exact rfl | (refine qS ?_; constructor)))
                · rw [wi, decide_eq_false q4] at c46o
                  rcases g3 with g3 | g3
                  · refine pi1 fn4 ?_
                    (repeat' first | (refine Owe.same ?_; first | refine Owe.o ?_ | refine Owe.mk ?_ ?_) | (refine Fork.same ?_; (first | refine fkY ?_ | refine fkF ?_ | ((first | refine fkD ?_ ?_ | refine fkN ?_ ?_ | refine fkM ?_ ?_) <;> intro h))) | ((first | refine OpsL.same ?_ | refine OpsDL.same ?_); first | refine oK c24 rfl rfl rfl ?_ | refine oK c25 rfl rfl rfl ?_ | refine oK c26 rfl rfl rfl ?_ | refine oK c28 rfl rfl rfl ?_ | refine oK c27 rfl rfl rfl ?_ | refine oK c30 rfl rfl rfl ?_ | refine oK c29 rfl rfl rfl ?_ | refine oK c32 rfl rfl rfl ?_ | refine oK c31 rfl rfl rfl ?_ | refine oK c33 rfl rfl rfl ?_ | refine oK c34 rfl rfl rfl ?_ | refine oK c35 rfl rfl rfl ?_ | refine oK c36 rfl rfl rfl ?_ | refine oK c37 rfl rfl rfl ?_ | refine oK c38 rfl rfl rfl ?_ | refine oK c39 rfl rfl rfl ?_ | refine oK c40 rfl rfl rfl ?_ | refine oK c41 rfl rfl rfl ?_ | refine oK c42 rfl rfl rfl ?_ | refine oK c43 rfl rfl rfl ?_ | refine oK c44 rfl rfl rfl ?_ | refine oK c45 rfl rfl rfl ?_ | refine oK d33 rfl rfl rfl ?_ | refine oK c42l rfl rfl rfl ?_ | refine oK c46p rfl rfl rfl ?_ | refine oK c46t rfl rfl rfl ?_ | refine oK c46w rfl rfl rfl ?_ | refine oK c46o rfl rfl rfl ?_) | refine MvQ.stay ?_)
                    (refine rqK rfl ?_; (repeat' first | exact rfl | (refine qS ?_; constructor)))
                  · refine pi1 fn4 ?_
                    (repeat' first | (refine Owe.same ?_; first | refine Owe.o ?_ | refine Owe.mk ?_ ?_) | (refine Fork.same ?_; (first | refine fkY ?_ | refine fkF ?_ | ((first | refine fkD ?_ ?_ | refine fkN ?_ ?_ | refine fkM ?_ ?_) <;> intro h))) | ((first | refine OpsL.same ?_ | refine OpsDL.same ?_); first | refine oK c24 rfl rfl rfl ?_ | refine oK c25 rfl rfl rfl ?_ | refine oK c26 rfl rfl rfl ?_ | refine oK c28 rfl rfl rfl ?_ | refine oK c27 rfl rfl rfl ?_ | refine oK c30 rfl rfl rfl ?_ | refine oK c29 rfl rfl rfl ?_ | refine oK c32 rfl rfl rfl ?_ | refine oK c31 rfl rfl rfl ?_ | refine oK c33 rfl rfl rfl ?_ | refine oK c34 rfl rfl rfl ?_ | refine oK c35 rfl rfl rfl ?_ | refine oK c36 rfl rfl rfl ?_ | refine oK c37 rfl rfl rfl ?_ | refine oK c38 rfl rfl rfl ?_ | refine oK c39 rfl rfl rfl ?_ | refine oK c40 rfl rfl rfl ?_ | refine oK c41 rfl rfl rfl ?_ | refine oK c42 rfl rfl rfl ?_ | refine oK c43 rfl rfl rfl ?_ | refine oK c44 rfl rfl rfl ?_ | refine oK c45 rfl rfl rfl ?_ | refine oK d33 rfl rfl rfl ?_ | refine oK c42l rfl rfl rfl ?_ | refine oK c46p rfl rfl rfl ?_ | refine oK c46t rfl rfl rfl ?_ | refine oK c46w rfl rfl rfl ?_ | refine oK c46o rfl rfl rfl ?_) | refine MvQ.stay ?_)
                    (refine rqK rfl ?_; (repeat' first | exact rfl | (refine qS ?_; constructor)))
              · rw [wi, decide_eq_false q3] at c46w
                rcases g3 with g3 | g3
                · refine pi1 fn4 ?_
                  (repeat' first | (refine Owe.same ?_; first | refine Owe.o ?_ | refine Owe.mk ?_ ?_) | (refine Fork.same ?_; (first | refine fkY ?_ | refine fkF ?_ | ((first | refine fkD ?_ ?_ | refine fkN ?_ ?_ | refine fkM ?_ ?_) <;> intro h))) | ((first | refine OpsL.same ?_ | refine OpsDL.same ?_); first | refine oK c24 rfl rfl rfl ?_ | refine oK c25 rfl rfl rfl ?_ | refine oK c26 rfl rfl rfl ?_ | refine oK c28 rfl rfl rfl ?_ | refine oK c27 rfl rfl rfl ?_ | refine oK c30 rfl rfl rfl ?_ | refine oK c29 rfl rfl rfl ?_ | refine oK c32 rfl rfl rfl ?_ | refine oK c31 rfl rfl rfl ?_ | refine oK c33 rfl rfl rfl ?_ | refine oK c34 rfl rfl rfl ?_ | refine oK c35 rfl rfl rfl ?_ | refine oK c36 rfl rfl rfl ?_ | refine oK c37 rfl rfl rfl ?_ | refine oK c38 rfl rfl rfl ?_ | refine oK c39 rfl rfl rfl ?_ | refine oK c40 rfl rfl rfl ?_ | refine oK c41 rfl rfl rfl ?_ | refine oK c42 rfl rfl rfl ?_ | refine oK c43 rfl rfl rfl ?_ | refine oK c44 rfl rfl rfl ?_ | refine oK c45 rfl rfl rfl ?_ | refine oK d33 rfl rfl rfl ?_ | refine oK c42l rfl rfl rfl ?_ | refine oK c46p rfl rfl rfl ?_ | refine oK c46t rfl rfl rfl ?_ | refine oK c46w rfl rfl rfl ?_) | refine MvQ.stay ?_)
                  (refine rqK rfl ?_; (repeat' first | exact rfl | (refine qS ?_; constructor)))
                · refine pi1 fn4 ?_
                  (repeat' first | (refine Owe.same ?_; first | refine Owe.o ?_ | refine Owe.mk ?_ ?_) | (refine Fork.same ?_; (first | refine fkY ?_ | refine fkF ?_ | ((first | refine fkD ?_ ?_ | refine fkN ?_ ?_ | refine fkM ?_ ?_) <;> intro h))) | ((first | refine OpsL.same ?_ | refine OpsDL.same ?_); first | refine oK c24 rfl rfl rfl ?_ | refine oK c25 rfl rfl rfl ?_ | refine oK c26 rfl rfl rfl ?_ | refine oK c28 rfl rfl rfl ?_ | refine oK c27 rfl rfl rfl ?_ | refine oK c30 rfl rfl rfl ?_ | refine oK c29 rfl rfl rfl ?_ | refine oK c32 rfl rfl rfl ?_ | refine oK c31 rfl rfl rfl ?_ | refine oK c33 rfl rfl rfl ?_ | refine oK c34 rfl rfl rfl ?_ | refine oK c35 rfl rfl rfl ?_ | refine oK c36 rfl rfl rfl ?_ | refine oK c37 rfl rfl rfl ?_ | refine oK c38 rfl rfl rfl ?_ | refine oK c39 rfl rfl rfl ?_ | refine oK c40 rfl rfl rfl ?_ | refine oK c41 rfl rfl rfl ?_ | refine oK c42 rfl rfl rfl ?_ | refine oK c43 rfl rfl rfl ?_ | refine oK c44 rfl rfl rfl ?_ | refine oK c45 rfl rfl rfl ?_ | refine oK d33 rfl rfl rfl ?_ | refine oK c42l rfl rfl rfl ?_ | refine oK c46p rfl rfl rfl ?_ | refine oK c46t rfl rfl rfl ?_ | refine oK c46w rfl rfl rfl ?_) | refine MvQ.stay ?_)
                  (refine rqK rfl ?_; (repeat' first | exact rfl | (refine qS ?_; constructor)))
            · rw [wi, decide_eq_false q2] at c46t
              rcases g3 with g3 | g3
              · refine pi1 fn4 ?_
                (repeat' first | (refine Owe.same ?_; first | refine Owe.o ?_ | refine Owe.mk ?_ ?_) | (refine Fork.same ?_; (first | refine fkY ?_ | refine fkF ?_ | ((first | refine fkD ?_ ?_ | refine fkN ?_ ?_ | refine fkM ?_ ?_) <;> intro h))) | ((first | refine OpsL.same ?_ | refine OpsDL.same ?_); first | refine oK c24 rfl rfl rfl ?_ | refine oK c25 rfl rfl rfl ?_ | refine oK c26 rfl rfl rfl ?_ | refine oK c28 rfl rfl rfl ?_ | refine oK c27 rfl rfl rfl ?_ | refine oK c30 rfl rfl rfl ?_ | refine oK c29 rfl rfl rfl ?_ | refine oK c32 rfl rfl rfl ?_ | refine oK c31 rfl rfl rfl ?_ | refine oK c33 rfl rfl rfl ?_ | refine oK c34 rfl rfl rfl ?_ | refine oK c35 rfl rfl rfl ?_ | refine oK c36 rfl rfl rfl ?_ | refine oK c37 rfl rfl rfl ?_ | refine oK c38 rfl rfl rfl ?_ | refine oK c39 rfl rfl rfl ?_ | refine oK c40 rfl rfl rfl ?_ | refine oK c41 rfl rfl rfl ?_ | refine oK c42 rfl rfl rfl ?_ | refine oK c43 rfl rfl rfl ?_ | refine oK c44 rfl rfl rfl ?_ | refine oK c45 rfl rfl rfl ?_ | refine oK d33 rfl rfl rfl ?_ | refine oK c42l rfl rfl rfl ?_ | refine oK c46p rfl rfl rfl ?_ | refine oK c46t rfl rfl rfl ?_) | refine MvQ.stay ?_)
                (refine rqK rfl ?_; (repeat' first | exact rfl | (refine qS ?_; constructor)))
              · refine pi1 fn4 ?_
                (repeat' first | (refine Owe.same ?_; first | refine Owe.o ?_ | refine Owe.mk ?_ ?_) | (refine Fork.same ?_; (first | refine fkY ?_ | refine fkF ?_ | ((first | refine fkD ?_ ?_ | refine fkN ?_ ?_ | refine fkM ?_ ?_) <;> intro h))) | ((first | refine OpsL.same ?_ | refine OpsDL.same ?_); first | refine oK c24 rfl rfl rfl ?_ | refine oK c25 rfl rfl rfl ?_ | refine oK c26 rfl rfl rfl ?_ | refine oK c28 rfl rfl rfl ?_ | refine oK c27 rfl rfl rfl ?_ | refine oK c30 rfl rfl rfl ?_ | refine oK c29 rfl rfl rfl ?_ | refine oK c32 rfl rfl rfl ?_ | refine oK c31 rfl rfl rfl ?_ | refine oK c33 rfl rfl rfl ?_ | refine oK c34 rfl rfl rfl ?_ | refine oK c35 rfl rfl rfl ?_ | refine oK c36 rfl rfl rfl ?_ | refine oK c37 rfl rfl rfl ?_ | refine oK c38 rfl rfl rfl ?_ | refine oK c39 rfl rfl rfl ?_ | refine oK c40 rfl rfl rfl ?_ | refine oK c41 rfl rfl rfl ?_ | refine oK c42 rfl rfl rfl ?_ | refine oK c43 rfl rfl rfl ?_ | refine oK c44 rfl rfl rfl ?_ | refine oK c45 rfl rfl rfl ?_ | refine oK d33 rfl rfl rfl ?_ | refine oK c42l rfl rfl rfl ?_ | refine oK c46p rfl rfl rfl ?_ | refine oK c46t rfl rfl rfl ?_) | refine MvQ.stay ?_)
                (refine rqK rfl ?_; (repeat' first | exact rfl | (refine qS ?_; constructor)))
          · rw [wi, decide_eq_false q1] at c46p
            rcases g3 with g3 | g3
            · refine pi1 fn4 ?_
              (repeat' first | (refine Owe.same ?_; first | refine Owe.o ?_ | refine Owe.mk ?_ ?_) | (refine Fork.same ?_; (first | refine fkY ?_ | refine fkF ?_ | ((first | refine fkD ?_ ?_ | refine fkN ?_ ?_ | refine fkM ?_ ?_) <;> intro h))) | ((first | refine OpsL.same ?_ | refine OpsDL.same ?_); first | refine oK c24 rfl rfl rfl ?_ | refine oK c25 rfl rfl rfl ?_ | refine oK c26 rfl rfl rfl ?_ | refine oK c28 rfl rfl rfl ?_ | refine oK c27 rfl rfl rfl ?_ | refine oK c30 rfl rfl rfl ?_ | refine oK c29 rfl rfl rfl ?_ | refine oK c32 rfl rfl rfl ?_ | refine oK c31 rfl rfl rfl ?_ | refine oK c33 rfl rfl rfl ?_ | refine oK c34 rfl rfl rfl ?_ | refine oK c35 rfl rfl rfl ?_ | refine oK c36 rfl rfl rfl ?_ | refine oK c37 rfl rfl rfl ?_ | refine oK c38 rfl rfl rfl ?_ | refine oK c39 rfl rfl rfl ?_ | refine oK c40 rfl rfl rfl ?_ | refine oK c41 rfl rfl rfl ?_ | refine oK c42 rfl rfl rfl ?_ | refine oK c43 rfl rfl rfl ?_ | refine oK c44 rfl rfl rfl ?_ | refine oK c45 rfl rfl rfl ?_ | refine oK d33 rfl rfl rfl ?_ | refine oK c42l rfl rfl rfl ?_ | refine oK c46p rfl rfl rfl ?_) | refine MvQ.stay ?_)
              (refine rqK rfl ?_; (repeat' first | exact rfl | (refine qS ?_; constructor)))
            · refine pi1 fn4 ?_
              (repeat' first | (refine Owe.same ?_; first | refine Owe.o ?_ | refine Owe.mk ?_ ?_) | (refine Fork.same ?_; (first | refine fkY ?_ | refine fkF ?_ | ((first | refine fkD ?_ ?_ | refine fkN ?_ ?_ | refine fkM ?_ ?_) <;> intro h))) | ((first | refine OpsL.same ?_ | refine OpsDL.same ?_); first | refine oK c24 rfl rfl rfl ?_ | refine oK c25 rfl rfl rfl ?_ | refine oK c26 rfl rfl rfl ?_ | refine oK c28 rfl rfl rfl ?_ | refine oK c27 rfl rfl rfl ?_ | refine oK c30 rfl rfl rfl ?_ | refine oK c29 rfl rfl rfl ?_ | refine oK c32 rfl rfl rfl ?_ | refine oK c31 rfl rfl rfl ?_ | refine oK c33 rfl rfl rfl ?_ | refine oK c34 rfl rfl rfl ?_ | refine oK c35 rfl rfl rfl ?_ | refine oK c36 rfl rfl rfl ?_ | refine oK c37 rfl rfl rfl ?_ | refine oK c38 rfl rfl rfl ?_ | refine oK c39 rfl rfl rfl ?_ | refine oK c40 rfl rfl rfl ?_ | refine oK c41 rfl rfl rfl ?_ | refine oK c42 rfl rfl rfl ?_ | refine oK c43 rfl rfl rfl ?_ | refine oK c44 rfl rfl rfl ?_ | refine oK c45 rfl rfl rfl ?_ | refine oK d33 rfl rfl rfl ?_ | refine oK c42l rfl rfl rfl ?_ | refine oK c46p rfl rfl rfl ?_) | refine MvQ.stay ?_)
              (refine rqK rfl ?_; (repeat' first | exact rfl | (refine qS ?_; constructor)))
        · clear p1 p2 p3
          generalize (tsE l).2 = e at *
          rcases g3 with g3 | g3
          · refine pi1 fn4 ?_
            (repeat' first | (refine Owe.same ?_; first | refine Owe.o ?_ | refine Owe.mk ?_ ?_) | (refine Fork.same ?_; (first | refine fkY ?_ | refine fkF ?_ | ((first | refine fkD ?_ ?_ | refine fkN ?_ ?_ | refine fkM ?_ ?_) <;> intro h))) | ((first | refine OpsL.same ?_ | refine OpsDL.same ?_); first | refine oK c24 rfl rfl rfl ?_ | refine oK c25 rfl rfl rfl ?_ | refine oK c26 rfl rfl rfl ?_ | refine oK c28 rfl rfl rfl ?_ | refine oK c27 rfl rfl rfl ?_ | refine oK c30 rfl rfl rfl ?_ | refine oK c29 rfl rfl rfl ?_ | refine oK c32 rfl rfl rfl ?_ | refine oK c31 rfl rfl rfl ?_ | refine oK c33 rfl rfl rfl ?_ | refine oK c34 rfl rfl rfl ?_ | refine oK c35 rfl rfl rfl ?_ | refine oK c36 rfl rfl rfl ?_ | refine oK c37 rfl rfl rfl ?_ | refine oK c38 rfl rfl rfl ?_ | refine oK c39 rfl rfl rfl ?_ | refine oK c40 rfl rfl rfl ?_ | refine oK c41 rfl rfl rfl ?_ | refine oK c42 rfl rfl rfl ?_ | refine oK c43 rfl rfl rfl ?_ | refine oK c44 rfl rfl rfl ?_ | refine oK c45 rfl rfl rfl ?_) | refine MvQ.stay ?_)
            (refine rqK rfl ?_; (repeat' first | exact rfl | (refine qS ?_; constructor)))
          · refine pi1 fn4 ?_
            (repeat' first | (refine Owe.same ?_; first | refine Owe.o ?_ | refine Owe.mk ?_ ?_) | (refine Fork.same ?_; (first | refine fkY ?_ | refine fkF ?_ | ((first | refine fkD ?_ ?_ | refine fkN ?_ ?_ | refine fkM ?_ ?_) <;> intro h))) | ((first | refine OpsL.same ?_ | refine OpsDL.same ?_); first | refine oK c24 rfl rfl rfl ?_ | refine oK c25 rfl rfl rfl ?_ | refine oK c26 rfl rfl rfl ?_ | refine oK c28 rfl rfl rfl ?_ | refine oK c27 rfl rfl rfl ?_ | refine oK c30 rfl rfl rfl ?_ | refine oK c29 rfl rfl rfl ?_ | refine oK c32 rfl rfl rfl ?_ | refine oK c31 rfl rfl rfl ?_ | refine oK c33 rfl rfl rfl ?_ | refine oK c34 rfl rfl rfl ?_ | refine oK c35 rfl rfl rfl ?_ | refine oK c36 rfl rfl rfl ?_ | refine oK c37 rfl rfl rfl ?_ | refine oK c38 rfl rfl rfl ?_ | refine oK c39 rfl rfl rfl ?_ | refine oK c40 rfl rfl rfl ?_ | refine oK c41 rfl rfl rfl ?_ | refine oK c42 rfl rfl rfl ?_ | refine oK c43 rfl rfl rfl ?_ | refine oK c44 rfl rfl rfl ?_ | refine oK c45 rfl rfl rfl ?_) | refine MvQ.stay ?_)
            (refine rqK rfl ?_; (repeat' first | exact rfl | (refine qS ?_; constructor)))
      · by_cases g4 : (s.length : Int) ≤ 60000
        · refine pi1 fn4 ?_
          (repeat' first | (refine Owe.same ?_; first | refine Owe.o ?_ | refine Owe.mk ?_ ?_) | (refine Fork.same ?_; (first | refine fkY ?_ | refine fkF ?_ | ((first | refine fkD ?_ ?_ | refine fkN ?_ ?_ | refine fkM ?_ ?_) <;> intro h))) | ((first | refine OpsL.same ?_ | refine OpsDL.same ?_); first | refine oK c24 rfl rfl rfl ?_ | refine oK c25 rfl rfl rfl ?_ | refine oK c26 rfl rfl rfl ?_) | refine MvQ.stay ?_)
          (refine rqK rfl ?_; (repeat' first | exact rfl | (refine qS ?_; constructor)))
        · refine pi1 fn4 ?_
          (repeat' first | (refine Owe.same ?_; first | refine Owe.o ?_ | refine Owe.mk ?_ ?_) | (refine Fork.same ?_; (first | refine fkY ?_ | refine fkF ?_ | ((first | refine fkD ?_ ?_ | refine fkN ?_ ?_ | refine fkM ?_ ?_) <;> intro h))) | ((first | refine OpsL.same ?_ | refine OpsDL.same ?_); first | refine oK c24 rfl rfl rfl ?_ | refine oK c25 rfl rfl rfl ?_ | refine oK c26 rfl rfl rfl ?_) | refine MvQ.stay ?_)
          (refine rqK rfl ?_; (repeat' first | exact rfl | (refine qS ?_; constructor)))
    · rw [decide_eq_false g2] at c26
      refine pi1 fn4 ?_
      (repeat' first | (refine Owe.same ?_; first | refine Owe.o ?_ | refine Owe.mk ?_ ?_) | (refine Fork.same ?_; (first | refine fkY ?_ | refine fkF ?_ | ((first | refine fkD ?_ ?_ | refine fkN ?_ ?_ | refine fkM ?_ ?_) <;> intro h))) | ((first | refine OpsL.same ?_ | refine OpsDL.same ?_); first | refine oK c24 rfl rfl rfl ?_ | refine oK c25 rfl rfl rfl ?_ | refine oK c26 rfl rfl rfl ?_) | refine MvQ.stay ?_)
      (refine rqK rfl ?_; (repeat' first | exact rfl | (refine qS ?_; constructor)))
  · rw [decide_eq_false g1] at c25
    refine pi1 fn4 ?_
    (repeat' first | (refine Owe.same ?_; first | refine Owe.o ?_ | refine Owe.mk ?_ ?_) | (refine Fork.same ?_; (first | refine fkY ?_ | refine fkF ?_ | ((first | refine fkD ?_ ?_ | refine fkN ?_ ?_ | refine fkM ?_ ?_) <;> intro h))) | ((first | refine OpsL.same ?_ | refine OpsDL.same ?_); first | refine oK c24 rfl rfl rfl ?_ | refine oK c25 rfl rfl rfl ?_ | refine oK c26 rfl rfl rfl ?_) | refine MvQ.stay ?_)
    (refine rqK rfl ?_; (repeat' first | exact rfl | (refine qS ?_; constructor)))
end Go.Pw
set_option linter.unusedVariables false
namespace Go.Proofs.YtailfkllanegeaaGreatDoor
open Go.ChangeShapes Go.WideShapes Go.ChangeAt Go.RowKit Go.Pw
abbrev laids : List (String × DataW Unit) := Rows.cableStringsRow.laid
theorem var_at {W : World} {name : String} {g : Nat} {cs : Array Value} (hg : Tryz.prog.globalNamed name = some g) (hv : World.var? Tryz.prog W name = some cs) : ∃ t fr, W.heap[g]? = some (.cells cs t fr) := by
  unfold World.var? at hv
  rw [hg, Option.bind_some] at hv
  split at hv
  · rename_i cs' t fr h
    cases hv
    exact ⟨t, fr, h⟩
  · cases hv
set_option maxRecDepth 100000 in
theorem ifc_at {W : World} {name : String} {g : Nat} {cs : Array Value} {fuel : Nat} {d : DataW Unit} {p : List MemPlace} {b : Nat} {sp : Nat → Bool} {hd : Bool} {enc : TypeId × Value → Unit} (hg : Tryz.prog.globalNamed name = some g) (hv : World.var? Tryz.prog W name = some cs)
    (h : DataW.trod enc Tryz.prog W b sp hd fuel 258 cs.toList = some (d, p)) : ifcW W g := by
  obtain ⟨t, fr, hh⟩ := var_at hg hv
  cases fuel with
  | zero => simp [DataW.trod] at h
  | succ fuel =>
    have hu := Tryz.underlying258
    generalize #[("Error", 261)] = ms at hu
    obtain ⟨l⟩ := cs
    simp only [DataW.trod, hu] at h
    split at h
    all_goals first
      | (have q := (by assumption : some (TypeDesc.interface ms) = some _); injection q with q; cases q; done)
      | (cases h; done)
      | exact ⟨.nilIface, by rw [Lib.cell_of_heap hh]; rfl, .inl rfl⟩
      | exact ⟨_, by rw [Lib.cell_of_heap hh]; rfl, .inr ⟨_, _, rfl⟩⟩
set_option maxRecDepth 100000 in
/-- What the listed variables hold. -/
theorem of_laid {W : World} (h : laidMetH Tryz.prog laids W) : LaidW W := by
  rw [MakeChecks.laidMetH_plain _ _ _ (by kernel_rfl)] at h
  obtain ⟨ps, ⟨g0, t0, cs0, f0, p0, q0, hg0, ht0, hv0, hd0, ⟨g1, t1, cs1, f1, p1, q1, hg1, ht1, hv1, hd1, ⟨g2, t2, cs2, f2, p2, q2, hg2, ht2, hv2, hd2, ⟨g3, t3, cs3, f3, p3, q3, hg3, ht3, hv3, hd3, ⟨g4, t4, cs4, f4, p4, q4, hg4, ht4, hv4, hd4, ⟨g5, t5, cs5, f5, p5, q5, hg5, ht5, hv5, hd5, _⟩, _⟩, _⟩, _⟩, _⟩, _⟩, _⟩ := h
  have e2 : g2 = 5 := Option.some.inj (hg2.symm.trans sh_laysM171.m17)
  have e4 : g4 = 2 := Option.some.inj (hg4.symm.trans sh_laysC172.m16)
  have e5 : g5 = 1 := Option.some.inj (hg5.symm.trans sh_laysC172.m15)
  subst e2; subst e4; subst e5
  have k2 : t2 = 361 := Option.some.inj (ht2.symm.trans (by kernel_rfl))
  have k4 : t4 = 258 := Option.some.inj (ht4.symm.trans (by kernel_rfl))
  have k5 : t5 = 258 := Option.some.inj (ht5.symm.trans (by kernel_rfl))
  subst k2; subst k4; subst k5
  refine ⟨?_, ifc_at hg5 hv5 hd5, ifc_at hg4 hv4 hd4⟩
  obtain ⟨t, fr, hh⟩ := var_at hg2 hv2
  have hcs := Lib.cells_of_tab (k := .u64) (zs := Lib.pow10Tab) Tryz.underlying361 Tryz.underlying298 (by kernel_rfl) (by kernel_rfl) hd2
  refine ⟨t, fr, ?_⟩
  rw [hh]
  obtain ⟨l⟩ := cs2
  simp only at hcs
  rw [hcs]
end Go.Proofs.YtailfkllanegeaaGreatDoor
