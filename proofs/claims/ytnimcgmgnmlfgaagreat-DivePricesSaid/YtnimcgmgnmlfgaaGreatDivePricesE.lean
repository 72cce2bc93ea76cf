/- Proved here at the end: the row named in the last theorem, on no condition. -/
import Derived.Test.YtnimcgmgnmlfgaaGreatDivePricesD
import Derived.Test.YtnimcgmgnmlfgaaGreatProg
import Derived.Test.YtnimcgmgnmlfgaaGreatRows
set_option linter.unusedSimpArgs false
set_option linter.unusedVariables false
set_option maxHeartbeats 4000000
namespace Go.Pw
set_option maxRecDepth 2000
open Go Go.Proofs A1 A2 A3 A4
theorem C98e : PFD Tryz.prog 98 [.c (.d (.sl 1 2 fun i => [[intsD []], [intsD []]].getD i []))] (.c (ints [])) := by
  refine pi1 fn98 ?_
  (repeat' first | (refine Owe.same ?_; first | refine Owe.o ?_ | refine Owe.mk ?_ ?_) | (refine Fork.same ?_; (first | refine fkD ?_ ?_ | refine fkN ?_ ?_ | refine fkM ?_ ?_) <;> intro h) | refine MvQ.stay ?_)
  refine Sat.lp0 (fun k : Nat => [(11, vi .i64 k), (10, vi .i64 2), (9, .c (.d (.sl 1 2 fun i => [[intsD []], [intsD []]].getD i []))), (0, .c (.d (.sl 1 2 fun i => [[intsD []], [intsD []]].getD i []))), (3, vi .i64 0)]) (fun k => k ≤ 2) (fun k => 2 - k) 0 (by decide) (by ((first | refine qen ?_ | refine qvs ?_ | refine qeq ?_ | refine qst ?_ | refine qv ?_ | refine qc ?_ | refine qe ?_ | refine qcs ?_ | skip); (repeat' first | exact rfl | (refine qS ?_; constructor)))) ?_
  intro k hk
  match k, hk with
  | 0, _ =>
    (repeat' first | (refine Owe.same ?_; first | refine Owe.o ?_ | refine Owe.mk ?_ ?_) | (refine Fork.same ?_; (first | refine fkY ?_ | refine fkF ?_ | ((first | refine fkD ?_ ?_ | refine fkN ?_ ?_ | refine fkM ?_ ?_) <;> intro h))) | ((first | refine OpsL.same ?_ | refine OpsDL.same ?_); first | refine oK C61 rfl rfl rfl ?_) | refine MvQ.stay ?_)
    refine again0 1 (by decide) (by decide) ?_
    ((first | refine qen ?_ | refine qvs ?_ | refine qeq ?_ | refine qst ?_ | refine qv ?_ | refine qc ?_ | refine qe ?_ | refine qcs ?_ | skip); (repeat' first | exact rfl | (refine qS ?_; constructor)))
  | 1, _ =>
    (repeat' first | (refine Owe.same ?_; first | refine Owe.o ?_ | refine Owe.mk ?_ ?_) | (refine Fork.same ?_; (first | refine fkY ?_ | refine fkF ?_ | ((first | refine fkD ?_ ?_ | refine fkN ?_ ?_ | refine fkM ?_ ?_) <;> intro h))) | ((first | refine OpsL.same ?_ | refine OpsDL.same ?_); first | refine oK C61 rfl rfl rfl ?_) | refine MvQ.stay ?_)
    refine again0 2 (by decide) (by decide) ?_
    ((first | refine qen ?_ | refine qvs ?_ | refine qeq ?_ | refine qst ?_ | refine qv ?_ | refine qc ?_ | refine qe ?_ | refine qcs ?_ | skip); (repeat' first | exact rfl | (refine qS ?_; constructor)))
  | 2, _ =>
    (repeat' first | (refine Owe.same ?_; first | refine Owe.o ?_ | refine Owe.mk ?_ ?_) | (refine Fork.same ?_; (first | refine fkY ?_ | refine fkF ?_ | ((first | refine fkD ?_ ?_ | refine fkN ?_ ?_ | refine fkM ?_ ?_) <;> intro h))) | ((first | refine OpsL.same ?_ | refine OpsDL.same ?_); first | refine oK C61 rfl rfl rfl ?_) | refine MvQ.stay ?_)
    refine Ops.cs rfl rfl (CallS.of fn121 rfl ?_)
    (repeat' first | (refine Owe.same ?_; first | refine Owe.o ?_ | refine Owe.mk ?_ ?_) | (refine Fork.same ?_; (first | refine fkY ?_ | refine fkF ?_ | ((first | refine fkD ?_ ?_ | refine fkN ?_ ?_ | refine fkM ?_ ?_) <;> intro h))) | ((first | refine OpsL.same ?_ | refine OpsDL.same ?_); first | refine oK C61 rfl rfl rfl ?_) | refine MvQ.stay ?_)
    (repeat' first | (refine Owe.same ?_; first | refine Owe.o ?_ | refine Owe.mk ?_ ?_) | (refine Fork.same ?_; (first | refine fkD ?_ ?_ | refine fkN ?_ ?_ | refine fkM ?_ ?_) <;> intro h) | refine MvQ.stay ?_)
    refine Sat.nilS 6 3 1 (fun i => r1 (([] : List Int).getD i 0)) rfl ?_
    refine Sat.lp (fun k : Nat => ⟨[(27, vi .i64 k), (26, vi .i64 2), (25, .c (.d (.sl 1 2 fun i => [[intsD []], [intsD []]].getD i []))), (6, .c (.ms 0 0))], [(0, rowv 3 1 r1 0 ([] : List Int))], 1⟩) (fun k : Nat => k ≤ 2) (fun k => 2 - k) 0 [0] (by decide) ?_ ?_
    · (refine qis ?_ ?_ <;> (repeat' first | exact rfl | (refine qS ?_; constructor)))
    · intro k hk
      match k, hk with
      | 0, _ =>
        (repeat' first | (refine Owe.same ?_; first | refine Owe.o ?_ | refine Owe.mk ?_ ?_) | (refine Fork.same ?_; (first | refine fkY ?_ | refine fkF ?_ | ((first | refine fkD ?_ ?_ | refine fkN ?_ ?_ | refine fkM ?_ ?_) <;> intro h))) | ((first | refine OpsL.same ?_ | refine OpsDL.same ?_); first | refine oK C61 rfl rfl rfl ?_) | refine MvQ.stay ?_)
        refine again 1 [1] (by decide) (by decide) ?_
        (refine qis ?_ ?_ <;> (repeat' first | exact rfl | (refine qS ?_; constructor)))
      | 1, _ =>
        (repeat' first | (refine Owe.same ?_; first | refine Owe.o ?_ | refine Owe.mk ?_ ?_) | (refine Fork.same ?_; (first | refine fkY ?_ | refine fkF ?_ | ((first | refine fkD ?_ ?_ | refine fkN ?_ ?_ | refine fkM ?_ ?_) <;> intro h))) | ((first | refine OpsL.same ?_ | refine OpsDL.same ?_); first | refine oK C61 rfl rfl rfl ?_) | refine MvQ.stay ?_)
        refine again 2 [1] (by decide) (by decide) ?_
        (refine qis ?_ ?_ <;> (repeat' first | exact rfl | (refine qS ?_; constructor)))
      | 2, _ =>
        (repeat' first | (refine Owe.same ?_; first | refine Owe.o ?_ | refine Owe.mk ?_ ?_) | (refine Fork.same ?_; (first | refine fkY ?_ | refine fkF ?_ | ((first | refine fkD ?_ ?_ | refine fkN ?_ ?_ | refine fkM ?_ ?_) <;> intro h))) | ((first | refine OpsL.same ?_ | refine OpsDL.same ?_); first | refine oK C61 rfl rfl rfl ?_) | refine MvQ.stay ?_)
        refine rqF 0 _ rfl rfl rfl ?_; (repeat' first | exact rfl | (refine qS ?_; constructor))
theorem C98 {a b : List Int} : (a.length ≤ 1000 ∧ b.length ≤ 1000) → PFD Tryz.prog 98 [.c (.d (.sl 1 2 fun i => [[intsD a], [intsD b]].getD i []))] (.c (ints (a ++ b))) := fun ⟨ha, hb⟩ => by
  by_cases h0 : 0 < (a.length : Int) + b.length
  · exact C98a ⟨ha, hb, h0⟩
  · obtain rfl : a = [] := List.eq_nil_of_length_eq_zero (by omega)
    obtain rfl : b = [] := List.eq_nil_of_length_eq_zero (by omega)
    exact C98e
/-- A list without its k-th number. -/
abbrev wo (l : List Int) (k : Nat) : List Int := l.take k ++ l.drop (k + 1)
theorem wo_len {l : List Int} {k : Nat} (h : k < l.length) : (wo l k).length + 1 = l.length := by simp [wo]; omega
theorem wo_mem {l : List Int} {k : Nat} {x : Int} (h : x ∈ wo l k) : x ∈ l := by
  rcases List.mem_append.1 h with h | h
  · exact List.mem_of_mem_take h
  · exact List.mem_of_mem_drop h
theorem wo_nd {l : List Int} {k : Nat} (h : l.Nodup) : (wo l k).Nodup := by
  have : (wo l k).Sublist l := by
    have h1 : (l.take k ++ l.drop (k + 1)).Sublist (l.take k ++ l.drop k) := (List.Sublist.refl _).append (List.drop_sublist_drop_left l (Nat.le_succ k))
    rwa [List.take_append_drop] at h1
  exact this.nodup h
theorem wo_not {l : List Int} {k : Nat} (h : l.Nodup) (hk : k < l.length) : l.getD k 0 ∉ wo l k := by
  have e : l = l.take k ++ l.getD k 0 :: l.drop (k + 1) := by
    rw [List.getD_eq_getElem?_getD, List.getElem?_eq_getElem hk]
    show l = l.take k ++ l[k] :: l.drop (k + 1)
    rw [← List.drop_eq_getElem_cons hk, List.take_append_drop]
  intro hm
  rw [e] at h
  have h2 := List.nodup_append.1 h
  rcases List.mem_append.1 hm with h1 | h1
  · exact h2.2.2 _ h1 _ (List.mem_cons_self ..) rfl
  · exact (List.nodup_cons.1 h2.2.1).1 h1
theorem C98w {l : List Int} {k : Nat} {f g : Nat → List D} (hf : ∀ i, i < k → f i = r1 (l.getD i 0)) (hg : ∀ i, k + 1 + i < l.length → g i = r1 (l.getD (k + 1 + i) 0)) {n m : Nat} (hn : n = k) (hm : m = l.length - (k + 1)) : (k < l.length ∧ l.length ≤ 1000) → PFD Tryz.prog 98 [.c (.d (.sl 1 2 fun i => [[.sl 1 n f], [.sl 1 m g]].getD i []))] (.c (ints (wo l k))) := fun ⟨hk, hl⟩ => by
  subst hn
  subst hm
  have c := C98 (a := l.take n) (b := l.drop (n + 1)) ⟨by rw [List.length_take]; omega, by rw [List.length_drop]; omega⟩
  refine PFD.ri c (.cons (RI.cI (DI.sl fun i hi => ?_)) .nil)
  match i, hi with
  | 0, _ =>
    refine .cons ?_ .nil
    have e : (l.take n).length = n := by rw [List.length_take]; omega
    show DI _ (.sl 1 (l.take n).length _)
    rw [e]
    refine DI.sl fun i hi => ?_
    have e2 : (l.take n).getD i 0 = l.getD i 0 := by simp only [List.getD_eq_getElem?_getD, List.getElem?_take, hi, if_true]
    rw [hf i hi, e2]
    exact DIs.refl _
  | 1, _ =>
    refine .cons ?_ .nil
    show DI _ (.sl 1 (l.drop (n + 1)).length _)
    rw [List.length_drop]
    refine DI.sl fun i hi => ?_
    have e2 : (l.drop (n + 1)).getD i 0 = l.getD (n + 1 + i) 0 := by simp only [List.getD_eq_getElem?_getD, List.getElem?_drop]
    rw [hg i (by omega), e2]
    exact DIs.refl _
theorem insI_mem {l : List Int} {i : Nat} {x y : Int} : y ∈ insI l i x ↔ y = x ∨ y ∈ l := by
  rw [insI, List.mem_append, List.mem_cons]
  conv => rhs; rw [← List.take_append_drop i l, List.mem_append]
  constructor
  · rintro (h | h | h)
    · exact .inr (.inl h)
    · exact .inl h
    · exact .inr (.inr h)
  · rintro (h | h | h)
    · exact .inr (.inl h)
    · exact .inl h
    · exact .inr (.inr h)
theorem nxS_ok {s : Si} {t : St8} {n : Int} (h : OnOk s t) (hn : 0 ≤ n ∧ n < s.tk.length) (hx : n ∉ t.d) (he : nxE s t n = 0) : OnOk s (nxS s t n) ∧ (nxS s t n).d.length = t.d.length + 1 ∧ ∀ m, m ∈ (nxS s t n).d ↔ m = n ∨ m ∈ t.d := by
  rw [nxE, nxF, fst3, unl0 (by decide), unl0 (by decide), unb_ok (by decide)] at he
  obtain ⟨a1, a2, a3⟩ := he
  have hB := (h.ok.t n.toNat (by omega)).b
  have hsw := trT_bd (p := (tkA s n).p) h
  have hD := nxT_b (n := n) h hB hsw
  have hm := hmT_bd hD
  have hr := of_decide_eq_true a3
  have h2 := h.tm
  have h3 := h.en
  have h4 := h.ok.e
  have h5 := h.oil
  have m1 : 0 ≤ hmT s (nxS s t n) * s.swim := Int.mul_nonneg hm.1 (by omega)
  obtain ⟨b5, b6, b7, b8, b9, b10⟩ := hB
  have m2 : 0 ≤ trT s t (tkA s n).p * s.swim := Int.mul_nonneg hsw.1 (by omega)
  have m3 : 0 ≤ (max (t.t + trT s t (tkA s n).p) (tkA s n).lo - (t.t + trT s t (tkA s n).p)) * s.idle := Int.mul_nonneg (by omega) (by omega)
  have hle := bsI_le n t.d
  obtain ⟨s1, s2⟩ := Srt.of h.d
  refine ⟨⟨h.ok, hD.pl, ?_, ?_, ?_, ?_⟩, insI_len hle, fun m => insI_mem⟩
  · have : (nxS s t n).t = max (t.t + trT s t (tkA s n).p) (tkA s n).lo + (tkA s n).d := rfl
    have key : (nxS s t n).t + hmT s (nxS s t n) ≤ s.fin := hr.2
    have hm0 : 0 ≤ hmT s (nxS s t n) := hm.1
    generalize hmT s (nxS s t n) = H at key hm0
    rw [this] at key ⊢
    clear hr hm hD a3 a2
    simp only [tkA] at *
    omega
  · have : (nxS s t n).w = t.w - (trT s t (tkA s n).p * s.swim + (max (t.t + trT s t (tkA s n).p) (tkA s n).lo - (t.t + trT s t (tkA s n).p)) * s.idle + (tkA s n).w) := rfl
    have key : s.res ≤ (nxS s t n).w - hmT s (nxS s t n) * s.swim := hr.1
    generalize hmT s (nxS s t n) * s.swim = H at key m1
    rw [this] at key ⊢
    clear hr hm hD a3 a2
    simp only [tkA] at *
    omega
  · have : (nxS s t n).o = t.o - (tkA s n).o := rfl
    have key : 0 ≤ (nxS s t n).o := a2
    rw [this] at key ⊢
    clear hr hm hD a3 a2
    simp only [tkA] at *
    omega
  · exact (insI_srt s1 hx).to (insI_bd hle s2 (by omega))
end Go.Pw

set_option linter.unusedSimpArgs false
set_option linter.unusedVariables false
set_option maxHeartbeats 4000000
namespace Go.Pw
set_option maxRecDepth 2000
open Go Go.Proofs A1 A2 A3 A4
/-- The task at an index of a set can be next: it waits for none of the others, and its step succeeds. -/
abbrev nowB (s : Si) (t : St8) (l : List Int) (k : Nat) : Bool := !((tkA s (l.getD k 0)).a.any fun m => decide (m ∈ wo l k)) && decide (nxE s t (l.getD k 0) = 0)
def togB (s : Si) : Nat → St8 → List Int → Bool
  | 0, _, l => decide (l = [])
  | f + 1, t, l => decide (l = []) || anyN (fun k => nowB s t l k && togB s f (nxS s t (l.getD k 0)) (wo l k)) l.length
/-- Numbers of tasks that are not done. -/
structure SetOk (s : Si) (t : St8) (l : List Int) : Prop where
  n : tkNs s l
  u : l.Nodup
  d : ∀ x ∈ l, x ∉ t.d
theorem SetOk.wo {s : Si} {t : St8} {l : List Int} {k : Nat} (h : SetOk s t l) (hk : k < l.length) (hd : ∀ m, m ∈ (nxS s t (l.getD k 0)).d ↔ m = l.getD k 0 ∨ m ∈ t.d) : SetOk s (nxS s t (l.getD k 0)) (wo l k) where
  n := fun i hi => by
    have hm := wo_mem (getD_mem 0 hi)
    obtain ⟨j, hj, e⟩ := List.getElem_of_mem hm
    have := h.n j hj
    rw [List.getD_eq_getElem?_getD, List.getElem?_eq_getElem hj] at this
    rw [← e]; exact this
  u := wo_nd h.u
  d := fun x hx => by
    rw [hd]
    rintro (e | e)
    · subst e; exact wo_not h.u hk hx
    · exact h.d x (wo_mem hx) e
theorem SetOk.len {s : Si} {t : St8} {l : List Int} (h : SetOk s t l) : l.length ≤ s.tk.length := by
  have : ∀ (N : Nat) (K : List Int), K.Nodup → (∀ a ∈ K, 0 ≤ a ∧ a < N) → K.length ≤ N := fun N => by
    induction N with
    | zero =>
      intro K _ hb
      have : K = [] := List.eq_nil_iff_forall_not_mem.2 fun a ha => by have := hb a ha; omega
      subst this; exact Nat.le_refl _
    | succ N ih =>
      intro K hn hb
      by_cases hm : (N : Int) ∈ K
      · have hl := List.length_erase_of_mem hm
        have hpos : 0 < K.length := List.length_pos_of_mem hm
        have := ih (K.erase (N : Int)) (hn.erase _) (fun a ha => by
          have h1 := (hn.mem_erase_iff).1 ha
          have := hb a h1.2
          have := h1.1
          omega)
        omega
      · have := ih K hn (fun a ha => by
          have := hb a ha
          have : a ≠ N := fun h => hm (h ▸ ha)
          omega)
        omega
  refine this _ l h.u fun a ha => ?_
  obtain ⟨j, hj, e⟩ := List.getElem_of_mem ha
  have := h.n j hj
  rw [List.getD_eq_getElem?_getD, List.getElem?_eq_getElem hj] at this
  rw [← e]; exact this
theorem C58 {s : Si} (hs : TkSm s.tk) : ∀ (f : Nat) {t : St8} {l : List Int}, OnOk s t → SetOk s t l → l.length ≤ f → PFD Tryz.prog 58 [div s t, .c (ints l)] (vbl (togB s f t l))
  | 0, t, l, h, hl, hf => by
    obtain rfl : l = [] := List.eq_nil_of_length_eq_zero (by omega)
    refine pi1 fn58 ?_
    (repeat' first | (refine Owe.same ?_; first | refine Owe.o ?_ | refine Owe.mk ?_ ?_) | (refine Fork.same ?_; (first | refine fkY ?_ | refine fkF ?_ | ((first | refine fkD ?_ ?_ | refine fkN ?_ ?_ | refine fkM ?_ ?_) <;> intro h))) | ((first | refine OpsL.same ?_ | refine OpsDL.same ?_); first | refine oK C75 rfl rfl rfl ?_) | refine MvQ.stay ?_)
    (refine rqK rfl ?_; (repeat' first | exact rfl | (refine qS ?_; constructor)))
  | f + 1, t, l, h, hl, hf => by
    have h6 := h.ok.n
    have hll := hl.len
    obtain ⟨q, hq⟩ : ∃ q, q = togB s (f + 1) t l := ⟨_, rfl⟩
    rw [← hq]
    rw [togB] at hq
    by_cases h0 : l = []
    · subst h0
      subst hq
      refine pi1 fn58 ?_
      (repeat' first | (refine Owe.same ?_; first | refine Owe.o ?_ | refine Owe.mk ?_ ?_) | (refine Fork.same ?_; (first | refine fkY ?_ | refine fkF ?_ | ((first | refine fkD ?_ ?_ | refine fkN ?_ ?_ | refine fkM ?_ ?_) <;> intro h))) | ((first | refine OpsL.same ?_ | refine OpsDL.same ?_); first | refine oK C75 rfl rfl rfl ?_) | refine MvQ.stay ?_)
      (refine rqK rfl ?_; (repeat' first | exact rfl | (refine qS ?_; constructor)))
    · have hpos := List.length_pos_iff.2 h0
      rw [decide_eq_false h0, Bool.false_or] at hq
      obtain ⟨F, hF⟩ : ∃ F, F = fun k => nowB s t l k && togB s f (nxS s t (l.getD k 0)) (wo l k) := ⟨_, rfl⟩
      rw [← hF] at hq
      refine pi1 fn58 ?_
      (repeat' first | (refine Owe.same ?_; first | refine Owe.o ?_ | refine Owe.mk ?_ ?_) | (refine Fork.same ?_; (first | refine fkY ?_ | refine fkF ?_ | ((first | refine fkD ?_ ?_ | refine fkN ?_ ?_ | refine fkM ?_ ?_) <;> intro h))) | ((first | refine OpsL.same ?_ | refine OpsDL.same ?_); first | refine oK C75 rfl rfl rfl ?_) | refine MvQ.stay ?_)
      refine Sat.lp0 (fun k : Nat => [(16, vi .i64 k), (15, vi .i64 l.length), (14, .c (ints l)), (1, .c (ints l)), (2, .c (.rp (diD s t)))]) (fun k => k ≤ l.length ∧ ∀ i, i < k → F i = false) (fun k => l.length - k) 0 ⟨Nat.zero_le _, fun i hi => by omega⟩ (by ((first | refine qen ?_ | refine qvs ?_ | refine qeq ?_ | refine qst ?_ | refine qv ?_ | refine qc ?_ | refine qe ?_ | refine qcs ?_ | skip); (repeat' first | exact rfl | (refine qS ?_; constructor)))) ?_
      intro k hk
      refine Fork.dec (fun hlt => ?_) (fun hlt => ?_)
      · have hlt : k < l.length := by omega
        have hn := hl.n k hlt
        have hFk : F k = (nowB s t l k && togB s f (nxS s t (l.getD k 0)) (wo l k)) := by rw [hF]
        have c1 := C98w (l := l) (k := k) (f := fun i => r1 (l.getD i 0)) (g := fun i => r1 (l.getD (k + 1 + i) 0)) (fun i _ => rfl) (fun i _ => rfl) rfl rfl ⟨hlt, by omega⟩
        (repeat' first | (refine Owe.same ?_; first | refine Owe.o ?_ | refine Owe.mk ?_ ?_) | (refine Fork.same ?_; (first | refine fkY ?_ | refine fkF ?_ | ((first | refine fkD ?_ ?_ | refine fkN ?_ ?_ | refine fkM ?_ ?_) <;> intro h))) | ((first | refine OpsL.same ?_ | refine OpsDL.same ?_); first | refine oK c1 rfl rfl rfl ?_) | refine MvQ.stay ?_)
        refine Ops.cs rfl rfl (CallS.of fn56 rfl ?_)
        (repeat' first | (refine Owe.same ?_; first | refine Owe.o ?_ | refine Owe.mk ?_ ?_) | (refine Fork.same ?_; (first | refine fkD ?_ ?_ | refine fkN ?_ ?_ | refine fkM ?_ ?_) <;> intro h) | refine MvQ.stay ?_)
        refine Ops.cs rfl rfl (CallS.of fn97 rfl ?_)
        (repeat' first | (refine Owe.same ?_; first | refine Owe.o ?_ | refine Owe.mk ?_ ?_) | (refine Fork.same ?_; (first | refine fkD ?_ ?_ | refine fkN ?_ ?_ | refine fkM ?_ ?_) <;> intro h) | refine MvQ.stay ?_)
        refine Sat.lp (fun j : Nat => ⟨[(8, vi .i64 j), (7, vi .i64 (tkA s (l.getD k 0)).a.length), (6, .c (ints (tkA s (l.getD k 0)).a)), (0, .c (ints (tkA s (l.getD k 0)).a)), (1, .c (.fn 99 [8]))], [(8, .box [ints (wo l k)])], 10⟩) (fun j => j ≤ (tkA s (l.getD k 0)).a.length ∧ ∀ i, i < j → decide ((tkA s (l.getD k 0)).a.getD i 0 ∈ wo l k) = false) (fun j => (tkA s (l.getD k 0)).a.length - j) 0 [] ⟨Nat.zero_le _, fun i hi => by omega⟩ ?_ ?_
        · (refine qis ?_ ?_ <;> (repeat' first | exact rfl | (refine qS ?_; constructor)))
        · intro j hj
          have hal : (tkA s (l.getD k 0)).a.length ≤ 1000000 := (hs (l.getD k 0).toNat (by omega)).2
          refine Fork.dec (fun hlj => ?_) (fun hlj => ?_)
          · have hlj : j < (tkA s (l.getD k 0)).a.length := by omega
            have c2 := C96 (l := wo l k) (n := (tkA s (l.getD k 0)).a.getD j 0) (by have := wo_len hlt; omega)
            (repeat' first | (refine Owe.same ?_; first | refine Owe.o ?_ | refine Owe.mk ?_ ?_) | (refine Fork.same ?_; (first | refine fkD ?_ ?_ | refine fkN ?_ ?_ | refine fkM ?_ ?_) <;> intro h) | refine MvQ.stay ?_)
            refine Ops.cs rfl rfl (CallS.of fn99 rfl ?_)
            (repeat' first | (refine Owe.same ?_; first | refine Owe.o ?_ | refine Owe.mk ?_ ?_) | (refine Fork.same ?_; (first | refine fkY ?_ | refine fkF ?_ | ((first | refine fkD ?_ ?_ | refine fkN ?_ ?_ | refine fkM ?_ ?_) <;> intro h))) | ((first | refine OpsL.same ?_ | refine OpsDL.same ?_); first | refine oK c2 rfl rfl rfl ?_) | refine MvQ.stay ?_)
            · have h : (tkA s (l.getD k 0)).a.getD j 0 ∈ wo l k := h
              have hw : (tkA s (l.getD k 0)).a.any (fun m => decide (m ∈ wo l k)) = true := List.any_eq_true.2 ⟨_, getD_mem 0 hlj, decide_eq_true h⟩
              rw [nowB, hw] at hFk
              exact again0 (k + 1) ⟨hlt, succ_all hk.2 hFk⟩ (by omega) (by ((first | refine qen ?_ | refine qvs ?_ | refine qeq ?_ | refine qst ?_ | refine qv ?_ | refine qc ?_ | refine qe ?_ | refine qcs ?_ | skip); (repeat' first | exact rfl | (refine qS ?_; constructor))))
            · have h : ¬ (tkA s (l.getD k 0)).a.getD j 0 ∈ wo l k := h
              refine again (j + 1) [] ⟨hlj, succ_all hj.2 (decide_eq_false h)⟩ (by omega) ?_
              (refine qis ?_ ?_ <;> (repeat' first | exact rfl | (refine qS ?_; constructor)))
          · have hjl : j = (tkA s (l.getD k 0)).a.length := by omega
            have hw : (tkA s (l.getD k 0)).a.any (fun m => decide (m ∈ wo l k)) = false := List.any_eq_false.2 fun x hx => by
              obtain ⟨i, hi, e⟩ := List.getElem_of_mem hx
              have := hj.2 i (by omega)
              rw [List.getD_eq_getElem?_getD, List.getElem?_eq_getElem hi] at this
              rw [← e]; simpa using this
            rw [nowB, hw] at hFk
            have hx : l.getD k 0 ∉ t.d := hl.d _ (getD_mem 0 hlt)
            have c3 := C100 (s := s) (t := t) (n := l.getD k 0) ⟨h, by have := h.dl; omega, hn⟩
            (repeat' first | (refine Owe.same ?_; first | refine Owe.o ?_ | refine Owe.mk ?_ ?_) | (refine Fork.same ?_; (first | refine fkY ?_ | refine fkF ?_ | ((first | refine fkD ?_ ?_ | refine fkN ?_ ?_ | refine fkM ?_ ?_) <;> intro h))) | ((first | refine OpsL.same ?_ | refine OpsDL.same ?_); first | refine oK C75 rfl rfl rfl ?_) | refine MvQ.stay ?_)
            by_cases hz : nxE s t (l.getD k 0) = 0
            · obtain ⟨h1, h2, h3⟩ := nxS_ok h hn hx hz
              have c4 := C58 hs f h1 (hl.wo hlt h3) (by have := wo_len hlt; omega)
              rw [decide_eq_true hz] at hFk
              rw [hz] at c3
              generalize nxS s t (l.getD k 0) = X at *
              generalize togB s f X (wo l k) = b at *
              (repeat' first | (refine Owe.same ?_; first | refine Owe.o ?_ | refine Owe.mk ?_ ?_) | (refine Fork.same ?_; (first | refine fkY ?_ | refine fkF ?_ | ((first | refine fkD ?_ ?_ | refine fkN ?_ ?_ | refine fkM ?_ ?_) <;> intro h))) | ((first | refine OpsL.same ?_ | refine OpsDL.same ?_); first | refine oK c3 rfl rfl rfl ?_) | refine MvQ.stay ?_)
              (repeat' first | (refine Owe.same ?_; first | refine Owe.o ?_ | refine Owe.mk ?_ ?_) | (refine Fork.same ?_; (first | refine fkY ?_ | refine fkF ?_ | ((first | refine fkD ?_ ?_ | refine fkN ?_ ?_ | refine fkM ?_ ?_) <;> intro h))) | ((first | refine OpsL.same ?_ | refine OpsDL.same ?_); first | refine oK c4 rfl rfl rfl ?_) | refine MvQ.stay ?_)
              · have hb : b = true := by simpa using h
                subst hb
                rw [anyN_t hlt hFk] at hq
                subst hq
                (refine rqK rfl ?_; (repeat' first | exact rfl | (refine qS ?_; constructor)))
              · have hb : b = false := by simpa using h
                subst hb
                exact again0 (k + 1) ⟨hlt, succ_all hk.2 hFk⟩ (by omega) (by ((first | refine qen ?_ | refine qvs ?_ | refine qeq ?_ | refine qst ?_ | refine qv ?_ | refine qc ?_ | refine qe ?_ | refine qcs ?_ | skip); (repeat' first | exact rfl | (refine qS ?_; constructor))))
            · rw [decide_eq_false hz] at hFk
              generalize nxE s t (l.getD k 0) = E at *
              (repeat' first | (refine Owe.same ?_; first | refine Owe.o ?_ | refine Owe.mk ?_ ?_) | (refine Fork.same ?_; (first | refine fkY ?_ | refine fkF ?_ | ((first | refine fkD ?_ ?_ | refine fkN ?_ ?_ | refine fkM ?_ ?_) <;> intro h))) | ((first | refine OpsL.same ?_ | refine OpsDL.same ?_); first | refine oK c3 rfl rfl rfl ?_) | refine MvQ.stay ?_)
              have hFk : F k = false := by rw [hFk]; simp
              exact again0 (k + 1) ⟨hlt, succ_all hk.2 hFk⟩ (by omega) (by ((first | refine qen ?_ | refine qvs ?_ | refine qeq ?_ | refine qst ?_ | refine qv ?_ | refine qc ?_ | refine qe ?_ | refine qcs ?_ | skip); (repeat' first | exact rfl | (refine qS ?_; constructor))))
      · have : k = l.length := by omega
        subst this
        rw [anyN_f.2 hk.2] at hq
        subst hq
        (repeat' first | (refine Owe.same ?_; first | refine Owe.o ?_ | refine Owe.mk ?_ ?_) | (refine Fork.same ?_; (first | refine fkD ?_ ?_ | refine fkN ?_ ?_ | refine fkM ?_ ?_) <;> intro h) | refine MvQ.stay ?_)
        (refine rqK rfl ?_; (repeat' first | exact rfl | (refine qS ?_; constructor)))
end Go.Pw

set_option linter.unusedSimpArgs false
set_option linter.unusedVariables false
set_option maxHeartbeats 4000000
namespace Go.Pw
set_option maxRecDepth 2000
open Go Go.Proofs A1 A2 A3 A4
theorem C26 {s : Si} {n : Int} : s.tk.length ≤ 1000000 → PFD Tryz.prog 26 [siv s, vi .i64 n] (vbl (wi n 0 ((s.tk.length : Int) - 1))) := fun hs => by
  refine pi1 fn26 ?_
  (repeat' first | (refine Owe.same ?_; first | refine Owe.o ?_ | refine Owe.mk ?_ ?_) | (refine Fork.same ?_; (first | refine fkD ?_ ?_ | refine fkN ?_ ?_ | refine fkM ?_ ?_) <;> intro h) | ((first | refine OpsL.same ?_ | refine OpsDL.same ?_); first | refine pK C75 rfl rfl ?_) | refine MvQ.stay ?_)
  (refine rqK rfl ?_; (repeat' first | exact rfl | (refine qS ?_; constructor)))
theorem C10 {t : St8} : PFD Tryz.prog 10 [stv t] (vbl (decide ((t.d.length : Int) ≤ 8))) := by
  refine pi1 fn10 ?_
  (repeat' first | (refine Owe.same ?_; first | refine Owe.o ?_ | refine Owe.mk ?_ ?_) | (refine Fork.same ?_; (first | refine fkD ?_ ?_ | refine fkN ?_ ?_ | refine fkM ?_ ?_) <;> intro h) | refine MvQ.stay ?_)
  (refine rqK rfl ?_; (repeat' first | exact rfl | (refine qS ?_; constructor)))
/-- The sizes of tasks are small. -/
abbrev fewT (l : List Tk) : Prop := (l.length : Int) ≤ 8 ∧ ∀ i, i < l.length → ((l.getD i tk0).n.size : Int) ≤ 20 ∧ ((l.getD i tk0).a.length : Int) ≤ 8
theorem C51 {l : List Tk} : PFD Tryz.prog 51 [.c (tks l)] (vbl (decide (fewT l))) := by
  refine pi1 fn51 ?_
  (repeat' first | (refine Owe.same ?_; first | refine Owe.o ?_ | refine Owe.mk ?_ ?_) | (refine Fork.same ?_; (first | refine fkD ?_ ?_ | refine fkN ?_ ?_ | refine fkM ?_ ?_) <;> intro h) | refine MvQ.stay ?_)
  · (refine rqK rfl ?_; (repeat' first | exact rfl | (refine qS ?_; constructor))); simp only [decide_eq_false_iff_not]; intro hh; exact absurd hh.1 (by omega)
  · have h8 : l.length ≤ 8 := by omega
    clear h
    refine Sat.lp0 (fun k : Nat => [(3, vi .i64 k), (0, .c (tks l))]) (fun k => k ≤ l.length ∧ ∀ i, i < k → ((l.getD i tk0).n.size : Int) ≤ 20 ∧ ((l.getD i tk0).a.length : Int) ≤ 8) (fun k => l.length - k) 0 ⟨Nat.zero_le _, fun i hi => by omega⟩ (by ((first | refine qen ?_ | refine qvs ?_ | refine qeq ?_ | refine qst ?_ | refine qv ?_ | refine qc ?_ | refine qe ?_ | refine qcs ?_ | skip); (repeat' first | exact rfl | (refine qS ?_; constructor)))) ?_
    intro k hk
    refine Fork.dec (fun hlt => ?_) (fun hlt => ?_)
    · have hlt : k < l.length := by omega
      (repeat' first | (refine Owe.same ?_; first | refine Owe.o ?_ | refine Owe.mk ?_ ?_) | (refine Fork.same ?_; (first | refine fkD ?_ ?_ | refine fkN ?_ ?_ | refine fkM ?_ ?_) <;> intro h) | refine MvQ.stay ?_)
      · (refine rqK rfl ?_; (repeat' first | exact rfl | (refine qS ?_; constructor))); simp only [decide_eq_false_iff_not]
        intro hh; have := (hh.2 k hlt).1; simp only [Int.toNat_natCast] at h; omega
      · (refine rqK rfl ?_; (repeat' first | exact rfl | (refine qS ?_; constructor))); simp only [decide_eq_false_iff_not]
        intro hh; have := (hh.2 k hlt).2; simp only [Int.toNat_natCast] at h; omega
      · rename_i h1
        simp only [Int.toNat_natCast] at h h1
        exact again0 (k + 1) ⟨hlt, succ_all hk.2 ⟨by omega, by omega⟩⟩ (by omega) (by ((first | refine qen ?_ | refine qvs ?_ | refine qeq ?_ | refine qst ?_ | refine qv ?_ | refine qc ?_ | refine qe ?_ | refine qcs ?_ | skip); (repeat' first | exact rfl | (refine qS ?_; constructor))))
    · have : k = l.length := by omega
      subst this
      (repeat' first | (refine Owe.same ?_; first | refine Owe.o ?_ | refine Owe.mk ?_ ?_) | (refine Fork.same ?_; (first | refine fkD ?_ ?_ | refine fkN ?_ ?_ | refine fkM ?_ ?_) <;> intro h) | refine MvQ.stay ?_)
      (refine rqK rfl ?_; (repeat' first | exact rfl | (refine qS ?_; constructor)))
      exact decide_eq_true ⟨by omega, hk.2⟩
/-- The sizes of a site are small. -/
structure Few (s : Si) : Prop where
  t : fewT s.tk
  h : (s.ho.length : Int) ≤ 7
  r : (s.tr.length : Int) ≤ 7
  i : (s.ti.length : Int) ≤ 8
  a : ∀ i, i < s.tr.length → ((s.tr.getD i []).length : Int) ≤ 7
abbrev fewP (s : Si) : Prop := fewT s.tk ∧ (s.ho.length : Int) ≤ 7 ∧ (s.tr.length : Int) ≤ 7 ∧ (s.ti.length : Int) ≤ 8 ∧ ∀ i, i < s.tr.length → ((s.tr.getD i []).length : Int) ≤ 7
theorem Few.of {s : Si} (h : fewP s) : Few s := ⟨h.1, h.2.1, h.2.2.1, h.2.2.2.1, h.2.2.2.2⟩
abbrev fewB (s : Si) : Bool := decide (fewP s)
theorem Few.sm {s : Si} (h : Few s) : SiSm s where
  tk := by have := h.t.1; omega
  t := fun i hi => by have := h.t.2 i hi; omega
  tr := by have := h.r; omega
  r := fun i hi => by have := h.a i hi; omega
  ho := by have := h.h; omega
  ti := by have := h.i; omega
theorem C9 {s : Si} : PFD Tryz.prog 9 [siv s] (vbl (fewB s)) := by
  have c1 := C51 (l := s.tk)
  by_cases hF : fewT s.tk ∧ (s.ho.length : Int) ≤ 7 ∧ (s.tr.length : Int) ≤ 7 ∧ (s.ti.length : Int) ≤ 8
  · obtain ⟨f1, f2, f3, f4⟩ := hF
    rw [decide_eq_true f1] at c1
    refine pi1 fn9 ?_
    (repeat' first | (refine Owe.same ?_; first | refine Owe.o ?_ | refine Owe.mk ?_ ?_) | (refine Fork.same ?_; (first | refine fkY ?_ | refine fkF ?_ | ((first | refine fkD ?_ ?_ | refine fkN ?_ ?_ | refine fkM ?_ ?_) <;> intro h))) | ((first | refine OpsL.same ?_ | refine OpsDL.same ?_); first | refine oK c1 rfl rfl rfl ?_) | refine MvQ.stay ?_)
    refine Sat.lp0 (fun k : Nat => [(3, vi .i64 k), (1, .c (.rp (siD s)))]) (fun k => k ≤ s.tr.length ∧ ∀ i, i < k → ((s.tr.getD i []).length : Int) ≤ 7) (fun k => s.tr.length - k) 0 ⟨Nat.zero_le _, fun i hi => by omega⟩ (by ((first | refine qen ?_ | refine qvs ?_ | refine qeq ?_ | refine qst ?_ | refine qv ?_ | refine qc ?_ | refine qe ?_ | refine qcs ?_ | skip); (repeat' first | exact rfl | (refine qS ?_; constructor)))) ?_
    intro k hk
    refine Fork.dec (fun hlt => ?_) (fun hlt => ?_)
    · have hlt : k < s.tr.length := by omega
      (repeat' first | (refine Owe.same ?_; first | refine Owe.o ?_ | refine Owe.mk ?_ ?_) | (refine Fork.same ?_; (first | refine fkD ?_ ?_ | refine fkN ?_ ?_ | refine fkM ?_ ?_) <;> intro h) | refine MvQ.stay ?_)
      · (refine rqK rfl ?_; (repeat' first | exact rfl | (refine qS ?_; constructor))); refine decide_eq_false fun hh => ?_
        have := hh.2.2.2.2 k hlt; simp only [Int.toNat_natCast] at h; omega
      · simp only [Int.toNat_natCast] at h
        exact again0 (k + 1) ⟨hlt, succ_all hk.2 (by omega)⟩ (by omega) (by ((first | refine qen ?_ | refine qvs ?_ | refine qeq ?_ | refine qst ?_ | refine qv ?_ | refine qc ?_ | refine qe ?_ | refine qcs ?_ | skip); (repeat' first | exact rfl | (refine qS ?_; constructor))))
    · have : k = s.tr.length := by omega
      subst this
      (repeat' first | (refine Owe.same ?_; first | refine Owe.o ?_ | refine Owe.mk ?_ ?_) | (refine Fork.same ?_; (first | refine fkD ?_ ?_ | refine fkN ?_ ?_ | refine fkM ?_ ?_) <;> intro h) | refine MvQ.stay ?_)
      (refine rqK rfl ?_; (repeat' first | exact rfl | (refine qS ?_; constructor)))
      exact decide_eq_true ⟨f1, f2, f3, f4, hk.2⟩
  · have e : fewB s = false := decide_eq_false fun hh => hF ⟨hh.1, hh.2.1, hh.2.2.1, hh.2.2.2.1⟩
    rw [e]
    by_cases f1 : fewT s.tk
    · rw [decide_eq_true f1] at c1
      by_cases f2 : (s.ho.length : Int) ≤ 7
      · by_cases f3 : (s.tr.length : Int) ≤ 7
        · have f4 : ¬ (s.ti.length : Int) ≤ 8 := fun f4 => hF ⟨f1, f2, f3, f4⟩
          refine pi1 fn9 ?_
          (repeat' first | (refine Owe.same ?_; first | refine Owe.o ?_ | refine Owe.mk ?_ ?_) | (refine Fork.same ?_; (first | refine fkY ?_ | refine fkF ?_ | ((first | refine fkD ?_ ?_ | refine fkN ?_ ?_ | refine fkM ?_ ?_) <;> intro h))) | ((first | refine OpsL.same ?_ | refine OpsDL.same ?_); first | refine oK c1 rfl rfl rfl ?_) | refine MvQ.stay ?_)
          (refine rqK rfl ?_; (repeat' first | exact rfl | (refine qS ?_; constructor)))
        · refine pi1 fn9 ?_
          (repeat' first | (refine Owe.same ?_; first | refine Owe.o ?_ | refine Owe.mk ?_ ?_) | (refine Fork.same ?_; (first | refine fkY ?_ | refine fkF ?_ | ((first | refine fkD ?_ ?_ | refine fkN ?_ ?_ | refine fkM ?_ ?_) <;> intro h))) | ((first | refine OpsL.same ?_ | refine OpsDL.same ?_); first | refine oK c1 rfl rfl rfl ?_) | refine MvQ.stay ?_)
          (refine rqK rfl ?_; (repeat' first | exact rfl | (refine qS ?_; constructor)))
      · refine pi1 fn9 ?_
        (repeat' first | (refine Owe.same ?_; first | refine Owe.o ?_ | refine Owe.mk ?_ ?_) | (refine Fork.same ?_; (first | refine fkY ?_ | refine fkF ?_ | ((first | refine fkD ?_ ?_ | refine fkN ?_ ?_ | refine fkM ?_ ?_) <;> intro h))) | ((first | refine OpsL.same ?_ | refine OpsDL.same ?_); first | refine oK c1 rfl rfl rfl ?_) | refine MvQ.stay ?_)
        (refine rqK rfl ?_; (repeat' first | exact rfl | (refine qS ?_; constructor)))
    · rw [decide_eq_false f1] at c1
      refine pi1 fn9 ?_
      (repeat' first | (refine Owe.same ?_; first | refine Owe.o ?_ | refine Owe.mk ?_ ?_) | (refine Fork.same ?_; (first | refine fkY ?_ | refine fkF ?_ | ((first | refine fkD ?_ ?_ | refine fkN ?_ ?_ | refine fkM ?_ ?_) <;> intro h))) | ((first | refine OpsL.same ?_ | refine OpsDL.same ?_); first | refine oK c1 rfl rfl rfl ?_) | refine MvQ.stay ?_)
      (refine rqK rfl ?_; (repeat' first | exact rfl | (refine qS ?_; constructor)))
end Go.Pw

set_option linter.unusedSimpArgs false
set_option linter.unusedVariables false
set_option maxHeartbeats 4000000
namespace Go.Pw
set_option maxRecDepth 2000
open Go Go.Proofs A1 A2 A3 A4
abbrev tkC (t : Tk) : List C := [str t.n, int t.p, int t.d, int t.w, int t.o, int t.v, int t.lo, int t.hi, ints t.a]
abbrev rgP (t : Tk) : Prop := ((0 ≤ t.p ∧ t.p ≤ 4) ∧ isN t.d ∧ isN t.w ∧ isN t.o ∧ isN t.v) ∧ isT t.lo ∧ isT t.hi
theorem odd4 {a b c d : Int} : oddI [a, b, c, d] = false ↔ isN a ∧ isN b ∧ isN c ∧ isN d := by
  simp [oddI]
theorem tkE_n {l : List Tk} {k : Nat} (h : ¬ nmP (l.getD k tk0).n) : tkE l k = 4 := by
  have e : tkF l k (l.getD k tk0) = 4 := by rw [tkF, unl, decide_eq_false h]; rfl
  rw [tkE, e]; rfl
theorem tkE_k {l : List Tk} {k : Nat} (h : nmP (l.getD k tk0).n) (h1 : knB l k (l.getD k tk0).n = true) : tkE l k = 5 := by
  have e : tkF l k (l.getD k tk0) = 5 := by rw [tkF, h1, unl, decide_eq_true h]; rfl
  rw [tkE, e]; rfl
theorem fst_00 {b : Bool} {x : Int} : fstE [0, 0, unb b 2, x] = if b = true then x else 2 := by
  cases b
  · rfl
  · show (if x = 0 then 0 else x) = x
    split
    · rename_i h; exact h.symm
    · rfl
theorem tksE_eq {lo hi : Int} : tksE lo hi = if isT lo ∧ isT hi then unl (lo ≤ hi) 9 else 2 := by
  rw [tksE]
  by_cases h : isT lo ∧ isT hi
  · rw [if_pos h, unl, decide_eq_true h]
    by_cases h1 : lo ≤ hi
    · rw [unl, decide_eq_true h1]; rfl
    · rw [unl, decide_eq_false h1]; rfl
  · rw [if_neg h, unl, decide_eq_false h]; rfl
theorem tkE_g {l : List Tk} {k : Nat} (h : nmP (l.getD k tk0).n) (h1 : knB l k (l.getD k tk0).n = false) : tkF l k (l.getD k tk0) = if rgP (l.getD k tk0) then unl ((l.getD k tk0).lo ≤ (l.getD k tk0).hi) 9 else 2 := by
  rw [tkF, h1, unl, decide_eq_true h]
  generalize l.getD k tk0 = t
  show fstE [0, 0, unb _ 2, _] = _
  rw [fst_00, tksE_eq]
  by_cases h2 : 0 ≤ t.p ∧ t.p ≤ 4
  · rcases ho : oddI [t.d, t.w, t.o, t.v] with _ | _
    · have h3 := odd4.1 ho
      rw [decide_eq_true h2, if_pos (show (true && !false) = true from rfl)]
      by_cases h4 : isT t.lo ∧ isT t.hi
      · rw [if_pos h4, if_pos ⟨⟨h2, h3⟩, h4⟩]
      · rw [if_neg h4, if_neg (fun hh => h4 hh.2)]
    · rw [if_neg (by simp), if_neg]
      rintro ⟨⟨_, h3⟩, _⟩
      rw [odd4.2 h3] at ho; cases ho
  · rw [decide_eq_false h2, if_neg (by simp), if_neg (fun hh => h2 hh.1.1)]
theorem tkE_r {l : List Tk} {k : Nat} (h : nmP (l.getD k tk0).n) (h1 : knB l k (l.getD k tk0).n = false) (h2 : ¬ rgP (l.getD k tk0)) : tkE l k = 2 := by
  have e := tkE_g h h1
  rw [if_neg h2] at e
  rw [tkE, e]; rfl
theorem tkE_o {l : List Tk} {k : Nat} (h : nmP (l.getD k tk0).n) (h1 : knB l k (l.getD k tk0).n = false) (h2 : rgP (l.getD k tk0)) (h3 : ¬ (l.getD k tk0).lo ≤ (l.getD k tk0).hi) : tkE l k = 9 := by
  have e := tkE_g h h1
  rw [if_pos h2, unl, decide_eq_false h3] at e
  rw [tkE, e]; rfl
theorem tkE_a {l : List Tk} {k : Nat} (h : nmP (l.getD k tk0).n) (h1 : knB l k (l.getD k tk0).n = false) (h2 : rgP (l.getD k tk0)) (h3 : (l.getD k tk0).lo ≤ (l.getD k tk0).hi) : tkE l k = (ascE (l.getD k tk0).a k).2 := by
  have e := tkE_g h h1
  rw [if_pos h2, unl, decide_eq_true h3] at e
  rw [tkE, e]; rfl
theorem ascN_6 {l : List Int} {b : Int} {j : Nat} (h : ¬ (0 ≤ l.getD j 0 ∧ l.getD j 0 ≤ b - 1)) : ascN l b j = 6 := by
  rw [ascN, unl, decide_eq_false h]; rfl
theorem ascN_9 {l : List Int} {b : Int} {j : Nat} (h : 0 ≤ l.getD j 0 ∧ l.getD j 0 ≤ b - 1) (hj : 0 < j) (h1 : l.getD j 0 ≤ l.getD (j - 1) 0) : ascN l b j = 9 := by
  rw [ascN, unl, decide_eq_true h, lastI, if_neg (by omega), unl, decide_eq_false (by omega)]; rfl
theorem ascN_0 {l : List Int} {b : Int} {j : Nat} (h : 0 ≤ l.getD j 0 ∧ l.getD j 0 ≤ b - 1) (h1 : 0 < j → l.getD (j - 1) 0 < l.getD j 0) : ascN l b j = 0 := by
  rw [ascN, fst2, unl0 (by decide), unl0 (by decide)]
  refine ⟨h, ?_⟩
  rw [lastI]
  split
  · omega
  · exact h1 (by omega)
theorem C114 {l : List Tk} : (l.length ≤ 1000000 ∧ TkSm l) → PFD Tryz.prog 114 [.c (tks l)] (.tup [vi .i64 (tsE l).1, vi .i64 (tsE l).2]) := fun ⟨hl, hs⟩ => by
  obtain ⟨q, hq⟩ : ∃ q, q = tsE l := ⟨_, rfl⟩
  rw [← hq]
  rw [tsE] at hq
  refine pi2 fn114 ?_
  (repeat' first | (refine Owe.same ?_; first | refine Owe.o ?_ | refine Owe.mk ?_ ?_) | (refine Fork.same ?_; (first | refine fkD ?_ ?_ | refine fkN ?_ ?_ | refine fkM ?_ ?_) <;> intro h) | refine MvQ.stay ?_)
  · rw [if_pos (by omega)] at hq; subst hq; (refine rqK rfl ?_; (repeat' first | exact rfl | (refine qS ?_; constructor)))
  · rw [if_neg (by omega)] at hq
    clear h
    have hret : ∀ {k}, k < l.length → (∀ i, i < k → tkE l i = 0) → ∀ {e}, tkE l k = e → ¬ e = 0 → q = ((k : Int), e) := fun hk h1 e he h2 => by
      have h3 := eachN_e hk h1 (by rw [he]; exact h2)
      rw [h3, he] at hq; exact hq
    refine Sat.lp0 (fun k : Nat => [(4, vi .i64 k), (0, .c (tks l))]) (fun k => k ≤ l.length ∧ ∀ i, i < k → tkE l i = 0) (fun k => l.length - k) 0 ⟨Nat.zero_le _, fun i hi => by omega⟩ (by ((first | refine qen ?_ | refine qvs ?_ | refine qeq ?_ | refine qst ?_ | refine qv ?_ | refine qc ?_ | refine qe ?_ | refine qcs ?_ | skip); (repeat' first | exact rfl | (refine qS ?_; constructor)))) ?_
    intro k hk
    refine Fork.dec (fun hlt => ?_) (fun hlt => ?_)
    · have hlt : k < l.length := by omega
      obtain ⟨s1, s2⟩ := hs k hlt
      have hret := fun {e} => @hret k hlt hk.2 e
      have c1 := C135 (s := (l.getD k tk0).n) s1
      (repeat' first | (refine Owe.same ?_; first | refine Owe.o ?_ | refine Owe.mk ?_ ?_) | (refine Fork.same ?_; (first | refine fkD ?_ ?_ | refine fkN ?_ ?_ | refine fkM ?_ ?_) <;> intro h) | ((first | refine OpsL.same ?_ | refine OpsDL.same ?_); first | refine pK c1 rfl rfl ?_) | refine MvQ.stay ?_)
      · have hx := hret (tkE_n (by simpa using h)) (by decide)
        subst hx; (refine rqK rfl ?_; (repeat' first | exact rfl | (refine qS ?_; constructor)))
      · have hn : nmP (l.getD k tk0).n := by simpa using h
        clear h
        refine Sat.lp (fun j : Nat => ⟨[(6, vi .i64 j), (5, .c (.bp 0 0)), (4, vi .i64 k), (0, .c (tks l))], [(0, .box (tkC (l.getD k tk0)))], 1⟩) (fun j => j ≤ k ∧ ∀ i, i < j → decide ((l.getD i tk0).n.data.toList = (l.getD k tk0).n.data.toList) = false) (fun j => k - j) 0 [0] ⟨Nat.zero_le _, fun i hi => by omega⟩ ?_ ?_
        · (refine qis ?_ ?_ <;> (repeat' first | exact rfl | (refine qS ?_; constructor)))
        · intro j hj
          refine Fork.dec (fun hlj => ?_) (fun hlj => ?_)
          · have hlj : j < k := by omega
            (repeat' first | (refine Owe.same ?_; first | refine Owe.o ?_ | refine Owe.mk ?_ ?_) | (refine Fork.same ?_; (first | refine fkD ?_ ?_ | refine fkN ?_ ?_ | refine fkM ?_ ?_) <;> intro h) | refine MvQ.stay ?_)
            · have h : (l.getD j tk0).n.data.toList = (l.getD k tk0).n.data.toList := h
              have hx := hret (tkE_k hn (anyN_t hlj (decide_eq_true h))) (by decide)
              subst hx; (refine rqK rfl ?_; (repeat' first | exact rfl | (refine qS ?_; constructor)))
            · have h : ¬ (l.getD j tk0).n.data.toList = (l.getD k tk0).n.data.toList := h
              refine again (j + 1) [0] ⟨hlj, succ_all hj.2 (decide_eq_false h)⟩ (by omega) ?_
              (refine qis ?_ ?_ <;> (repeat' first | exact rfl | (refine qS ?_; constructor)))
          · have : j = k := by omega
            subst this
            have hkn := anyN_f.2 hj.2
            have hr := tkE_r hn hkn
            have ho := tkE_o hn hkn
            have ha := tkE_a hn hkn
            (repeat' first | (refine Owe.same ?_; first | refine Owe.o ?_ | refine Owe.mk ?_ ?_) | (refine Fork.same ?_; (first | refine fkD ?_ ?_ | refine fkN ?_ ?_ | refine fkM ?_ ?_) <;> intro h) | ((first | refine OpsL.same ?_ | refine OpsDL.same ?_); first | refine pK C75 rfl rfl ?_ | refine pK C115 rfl rfl ?_ | refine pK C116 rfl rfl ?_) | refine MvQ.stay ?_)
            all_goals try (
              have hx := hret (hr (fun hh => by
                obtain ⟨⟨g1, g2, g3, g4, g5⟩, g6, g7⟩ := hh
                first | exact h g1 | exact h g2 | exact h g3 | exact h g4 | exact h g5 | exact h g6 | exact h g7)) (by decide)
              subst hx
              (refine rqK rfl ?_; (repeat' first | exact rfl | (refine qS ?_; constructor)))
              done)
            all_goals
              obtain ⟨g7, g6, g5, g4, g3, g2, g1⟩ := (show _ ∧ _ ∧ _ ∧ _ ∧ _ ∧ _ ∧ _ from ⟨by assumption, by assumption, by assumption, by assumption, by assumption, by assumption, by assumption⟩ : isT (l.getD j tk0).hi ∧ isT (l.getD j tk0).lo ∧ isN (l.getD j tk0).v ∧ isN (l.getD j tk0).o ∧ isN (l.getD j tk0).w ∧ isN (l.getD j tk0).d ∧ (0 ≤ (l.getD j tk0).p ∧ (l.getD j tk0).p ≤ 4))
              have hg : rgP (l.getD j tk0) := ⟨⟨g1, g2, g3, g4, g5⟩, g6, g7⟩
            · have h : (l.getD j tk0).hi < (l.getD j tk0).lo := h
              have hx := hret (ho hg (by omega)) (by decide)
              subst hx
              (refine rqK rfl ?_; (repeat' first | exact rfl | (refine qS ?_; constructor)))
            · have h : ¬ (l.getD j tk0).hi < (l.getD j tk0).lo := h
              have ha := ha hg (by omega)
              clear hr ho hj hkn hlj
              refine Sat.lp (fun m : Nat => ⟨[(7, vi .i64 m), (5, .c (.bp 0 0)), (4, vi .i64 j), (0, .c (tks l))], [(0, .box (tkC (l.getD j tk0)))], 1⟩) (fun m => m ≤ (l.getD j tk0).a.length ∧ ∀ i, i < m → ascN (l.getD j tk0).a j i = 0) (fun m => (l.getD j tk0).a.length - m) 0 [0] ⟨Nat.zero_le _, fun i hi => by omega⟩ ?_ ?_
              · (refine qis ?_ ?_ <;> (repeat' first | exact rfl | (refine qS ?_; constructor)))
              · intro m hm
                refine Fork.dec (fun hlm => ?_) (fun hlm => ?_)
                · have hlm : m < (l.getD j tk0).a.length := by omega
                  have hr : ∀ {e}, ascN (l.getD j tk0).a j m = e → ¬ e = 0 → q = ((j : Int), e) := fun he h2 => by
                    refine hret ?_ h2
                    rw [ha, ascE, eachN_e hlm hm.2 (by rw [he]; exact h2)]
                    exact he
                  (repeat' first | (refine Owe.same ?_; first | refine Owe.o ?_ | refine Owe.mk ?_ ?_) | (refine Fork.same ?_; (first | refine fkD ?_ ?_ | refine fkN ?_ ?_ | refine fkM ?_ ?_) <;> intro h) | ((first | refine OpsL.same ?_ | refine OpsDL.same ?_); first | refine pK C75 rfl rfl ?_) | refine MvQ.stay ?_)
                  · have hx := hr (ascN_6 h) (by decide)
                    subst hx
                    (refine rqK rfl ?_; (repeat' first | exact rfl | (refine qS ?_; constructor)))
                  · have hx := hr (ascN_9 ‹_› (by omega) (by rw [show m - 1 = ((m : Int) - 1).toNat by omega]; exact h)) (by decide)
                    subst hx
                    (refine rqK rfl ?_; (repeat' first | exact rfl | (refine qS ?_; constructor)))
                  · have h0 := ascN_0 (l := (l.getD j tk0).a) (b := j) (j := m) ‹_› (fun _ => by
                      have h : ¬ (l.getD j tk0).a.getD m 0 ≤ (l.getD j tk0).a.getD ((m : Int) - 1).toNat 0 := h
                      rw [show m - 1 = ((m : Int) - 1).toNat by omega]; omega)
                    refine again (m + 1) [0] ⟨hlm, succ_all hm.2 h0⟩ (by omega) ?_
                    (refine qis ?_ ?_ <;> (repeat' first | exact rfl | (refine qS ?_; constructor)))
                  · have h0 := ascN_0 (l := (l.getD j tk0).a) (b := j) (j := m) ‹_› (fun hh => by omega)
                    refine again (m + 1) [0] ⟨hlm, succ_all hm.2 h0⟩ (by omega) ?_
                    (refine qis ?_ ?_ <;> (repeat' first | exact rfl | (refine qS ?_; constructor)))
                · have : m = (l.getD j tk0).a.length := by omega
                  subst this
                  rw [ascE, eachN_z hm.2] at ha
                  (repeat' first | (refine Owe.same ?_; first | refine Owe.o ?_ | refine Owe.mk ?_ ?_) | (refine Fork.same ?_; (first | refine fkD ?_ ?_ | refine fkN ?_ ?_ | refine fkM ?_ ?_) <;> intro h) | refine MvQ.stay ?_)
                  exact again0 (j + 1) ⟨hlt, succ_all hk.2 ha⟩ (by omega) (by ((first | refine qen ?_ | refine qvs ?_ | refine qeq ?_ | refine qst ?_ | refine qv ?_ | refine qc ?_ | refine qe ?_ | refine qcs ?_ | skip); (repeat' first | exact rfl | (refine qS ?_; constructor))))
    · have : k = l.length := by omega
      subst this
      rw [eachN_z hk.2] at hq
      subst hq
      (repeat' first | (refine Owe.same ?_; first | refine Owe.o ?_ | refine Owe.mk ?_ ?_) | (refine Fork.same ?_; (first | refine fkD ?_ ?_ | refine fkN ?_ ?_ | refine fkM ?_ ?_) <;> intro h) | refine MvQ.stay ?_)
      (refine rqK rfl ?_; (repeat' first | exact rfl | (refine qS ?_; constructor)))
end Go.Pw

set_option linter.unusedSimpArgs false
set_option linter.unusedVariables false
set_option maxHeartbeats 4000000
namespace Go.Pw
set_option maxRecDepth 2000
open Go Go.Proofs A1 A2 A3 A4
theorem hm_1 {s : Si} {i : Nat} (h : ¬ isN (s.ho.getD i 0)) : hmN s i = 2 := by
  rw [hmN, unl, decide_eq_false h]; rfl
theorem hm_2 {s : Si} {i : Nat} (h : isN (s.ho.getD i 0)) (h1 : ¬ ((s.tr.getD i []).length : Int) = s.ho.length) : hmN s i = 10 := by
  rw [hmN, unl, decide_eq_true h, unl, decide_eq_false h1]; rfl
theorem hm_3 {s : Si} {i j : Nat} (h : isN (s.ho.getD i 0)) (h1 : ((s.tr.getD i []).length : Int) = s.ho.length) (hj : j < s.ho.length) (h2 : ¬ isN ((s.tr.getD i []).getD j 0) ∨ (i = j ∧ (s.tr.getD i []).getD j 0 ≠ 0)) : hmN s i = 2 := by
  have hb : hmB s i = false := by
    rcases h2 with h2 | ⟨rfl, h2⟩
    · have : oddI (s.tr.getD i []) = true := List.any_eq_true.2 ⟨_, getD_mem 0 (show j < (s.tr.getD i []).length by omega), by rw [decide_eq_false h2]; rfl⟩
      rw [hmB, this]; rfl
    · rw [hmB, decide_eq_false (by omega), decide_eq_false h2]; simp
  rw [hmN, hb, unl, decide_eq_true h, unl, decide_eq_true h1]; rfl
theorem hm_0 {s : Si} {i : Nat} (h : isN (s.ho.getD i 0)) (h1 : ((s.tr.getD i []).length : Int) = s.ho.length) (h2 : ∀ j, j < s.ho.length → isN ((s.tr.getD i []).getD j 0) ∧ (i = j → (s.tr.getD i []).getD j 0 = 0)) (hi : i < s.ho.length) : hmN s i = 0 := by
  have hb : hmB s i = true := by
    have : oddI (s.tr.getD i []) = false := List.any_eq_false.2 fun x hx => by
      obtain ⟨j, hj, rfl⟩ := List.getElem_of_mem hx
      have := (h2 j (by omega)).1
      rw [List.getD_eq_getElem?_getD, List.getElem?_eq_getElem hj] at this
      simpa using this
    rw [hmB, this, decide_eq_true ((h2 i hi).2 rfl)]; simp
  rw [hmN, hb, unl, decide_eq_true h, unl, decide_eq_true h1]; rfl
theorem ti_2 {s : Si} {i : Nat} (h : ¬ ((isT (s.ti.getD i (0, 0, 0)).1 ∧ isT (s.ti.getD i (0, 0, 0)).2.1) ∧ isN (s.ti.getD i (0, 0, 0)).2.2)) : tiN s i = 2 := by
  rw [tiN, tiF, unl, decide_eq_false h]; rfl
theorem ti_9 {s : Si} {i : Nat} (h : (isT (s.ti.getD i (0, 0, 0)).1 ∧ isT (s.ti.getD i (0, 0, 0)).2.1) ∧ isN (s.ti.getD i (0, 0, 0)).2.2) (h1 : ¬ ((s.ti.getD i (0, 0, 0)).1 ≤ (s.ti.getD i (0, 0, 0)).2.1 ∧ lastT s i < (s.ti.getD i (0, 0, 0)).1)) : tiN s i = 9 := by
  rw [tiN, tiF, unl, decide_eq_true h, unl, decide_eq_false h1]; rfl
theorem ti_0 {s : Si} {i : Nat} (h : (isT (s.ti.getD i (0, 0, 0)).1 ∧ isT (s.ti.getD i (0, 0, 0)).2.1) ∧ isN (s.ti.getD i (0, 0, 0)).2.2) (h1 : (s.ti.getD i (0, 0, 0)).1 ≤ (s.ti.getD i (0, 0, 0)).2.1 ∧ lastT s i < (s.ti.getD i (0, 0, 0)).1) : tiN s i = 0 := by
  rw [tiN, tiF, unl, decide_eq_true h, unl, decide_eq_true h1]; rfl
theorem lastT_of {s : Si} {i : Nat} {x : Int} (h : 0 ≤ x) : lastT s i < x ↔ ¬ (0 < i ∧ x ≤ (s.ti.getD (i - 1) (0, 0, 0)).2.1) := by
  rw [lastT]
  split <;> omega
theorem C74 {s : Si} : SiSm s → PFD Tryz.prog 74 [siv s] (.tup [vi .i64 (siE s).1, vi .i64 (siE s).2]) := fun hs => by
  obtain ⟨stk, st, str, sr, sho, sti⟩ := hs
  obtain ⟨q, hq⟩ : ∃ q, q = siE s := ⟨_, rfl⟩
  rw [← hq]
  rw [siE] at hq
  have c1 := C114 (l := s.tk) ⟨stk, st⟩
  refine pi2 fn74 ?_
  (repeat' first | (refine Owe.same ?_; first | refine Owe.o ?_ | refine Owe.mk ?_ ?_) | (refine Fork.same ?_; (first | refine fkD ?_ ?_ | refine fkN ?_ ?_ | refine fkM ?_ ?_) <;> intro h) | ((first | refine OpsL.same ?_ | refine OpsDL.same ?_); first | refine pK c1 rfl rfl ?_) | refine MvQ.stay ?_)
  · rw [if_neg h] at hq; subst hq; (refine rqK rfl ?_; (repeat' first | exact rfl | (refine qS ?_; constructor)))
  · rename_i h0
    have e : hoE s = 10 := by rw [hoE, unl, decide_eq_false (by omega)]; rfl
    rw [if_pos h0, if_neg (by rw [e]; decide), e] at hq
    subst hq; (refine rqK rfl ?_; (repeat' first | exact rfl | (refine qS ?_; constructor)))
  · rename_i h0 h1
    have e : hoE s = 8 := by rw [hoE, unl, decide_eq_true (show (s.ho.length : Int) > 0 by omega), unl, decide_eq_false (by omega)]; rfl
    rw [if_pos h0, if_neg (by rw [e]; decide), e] at hq
    subst hq; (refine rqK rfl ?_; (repeat' first | exact rfl | (refine qS ?_; constructor)))
  · rename_i h0 h1 h2
    have e : hoE s = 10 := by rw [hoE, unl, decide_eq_true (show (s.ho.length : Int) > 0 by omega), unl, decide_eq_true (by omega), unl, decide_eq_false (by omega)]; rfl
    rw [if_pos h0, if_neg (by rw [e]; decide), e] at hq
    subst hq; (refine rqK rfl ?_; (repeat' first | exact rfl | (refine qS ?_; constructor)))
  · rename_i h0 h1 h2
    have e : hoE s = 0 := by rw [hoE, unl, decide_eq_true (show (s.ho.length : Int) > 0 by omega), unl, decide_eq_true (by omega), unl, decide_eq_true (by omega)]; rfl
    rw [if_pos h0, if_pos e] at hq
    have hret : ∀ {k}, k < s.ho.length → (∀ i, i < k → hmN s i = 0) → ∀ {e}, hmN s k = e → ¬ e = 0 → q = ((k : Int), e) := fun hk h1 e he h2 => by
      have e := eachN_e hk h1 (by rw [he]; exact h2)
      rw [if_neg (by rw [e, he]; exact h2), e, he] at hq; exact hq
    refine Sat.lp0 (fun k : Nat => [(6, vi .i64 k), (1, .c (.rp (siD s)))]) (fun k => k ≤ s.ho.length ∧ ∀ i, i < k → hmN s i = 0) (fun k => s.ho.length - k) 0 ⟨Nat.zero_le _, fun i hi => by omega⟩ (by ((first | refine qen ?_ | refine qvs ?_ | refine qeq ?_ | refine qst ?_ | refine qv ?_ | refine qc ?_ | refine qe ?_ | refine qcs ?_ | skip); (repeat' first | exact rfl | (refine qS ?_; constructor)))) ?_
    intro k hk
    refine Fork.dec (fun hlt => ?_) (fun hlt => ?_)
    · have hlt : k < s.ho.length := by omega
      have hret := fun {e} => @hret k hlt hk.2 e
      (repeat' first | (refine Owe.same ?_; first | refine Owe.o ?_ | refine Owe.mk ?_ ?_) | (refine Fork.same ?_; (first | refine fkD ?_ ?_ | refine fkN ?_ ?_ | refine fkM ?_ ?_) <;> intro h) | ((first | refine OpsL.same ?_ | refine OpsDL.same ?_); first | refine pK C115 rfl rfl ?_) | refine MvQ.stay ?_)
      · have h : ¬ isN (s.ho.getD k 0) := by simpa using h
        have hx := hret (hm_1 h) (by decide)
        subst hx; (refine rqK rfl ?_; (repeat' first | exact rfl | (refine qS ?_; constructor)))
      · rename_i h3
        have h3 : isN (s.ho.getD k 0) := by simpa using h3
        simp only [Int.toNat_natCast] at h
        have hx := hret (hm_2 h3 h) (by decide)
        subst hx; (refine rqK rfl ?_; (repeat' first | exact rfl | (refine qS ?_; constructor)))
      · rename_i h3
        have h3 : isN (s.ho.getD k 0) := by simpa using h3
        simp only [Int.toNat_natCast] at h
        have h4 : ((s.tr.getD k []).length : Int) = s.ho.length := by simpa using h
        clear h
        refine Sat.lp0 (fun j : Nat => [(7, vi .i64 j), (6, vi .i64 k), (1, .c (.rp (siD s)))]) (fun j => j ≤ s.ho.length ∧ ∀ i, i < j → isN ((s.tr.getD k []).getD i 0) ∧ (k = i → (s.tr.getD k []).getD i 0 = 0)) (fun j => s.ho.length - j) 0 ⟨Nat.zero_le _, fun i hi => by omega⟩ (by ((first | refine qen ?_ | refine qvs ?_ | refine qeq ?_ | refine qst ?_ | refine qv ?_ | refine qc ?_ | refine qe ?_ | refine qcs ?_ | skip); (repeat' first | exact rfl | (refine qS ?_; constructor)))) ?_
        intro j hj
        refine Fork.dec (fun hlj => ?_) (fun hlj => ?_)
        · have hlj : j < s.ho.length := by omega
          have hr := fun h => hret (hm_3 h3 h4 hlj h) (by decide)
          (repeat' first | (refine Owe.same ?_; first | refine Owe.o ?_ | refine Owe.mk ?_ ?_) | (refine Fork.same ?_; (first | refine fkD ?_ ?_ | refine fkN ?_ ?_ | refine fkM ?_ ?_) <;> intro h) | ((first | refine OpsL.same ?_ | refine OpsDL.same ?_); first | refine pK C115 rfl rfl ?_) | refine MvQ.stay ?_)
          · have hx := hr (.inl h)
            subst hx
            (refine rqK rfl ?_; (repeat' first | exact rfl | (refine qS ?_; constructor)))
          · rename_i g1 g2
            have hx := hr (.inr ⟨by omega, h⟩)
            subst hx
            (refine rqK rfl ?_; (repeat' first | exact rfl | (refine qS ?_; constructor)))
          · rename_i g1 g2
            exact again0 (j + 1) ⟨hlj, succ_all hj.2 ⟨g1, fun _ => h⟩⟩ (by omega) (by ((first | refine qen ?_ | refine qvs ?_ | refine qeq ?_ | refine qst ?_ | refine qv ?_ | refine qc ?_ | refine qe ?_ | refine qcs ?_ | skip); (repeat' first | exact rfl | (refine qS ?_; constructor))))
          · rename_i g1
            exact again0 (j + 1) ⟨hlj, succ_all hj.2 ⟨g1, fun e => absurd (show (k : Int) = j by omega) h⟩⟩ (by omega) (by ((first | refine qen ?_ | refine qvs ?_ | refine qeq ?_ | refine qst ?_ | refine qv ?_ | refine qc ?_ | refine qe ?_ | refine qcs ?_ | skip); (repeat' first | exact rfl | (refine qS ?_; constructor))))
        · have : j = s.ho.length := by omega
          subst this
          (repeat' first | (refine Owe.same ?_; first | refine Owe.o ?_ | refine Owe.mk ?_ ?_) | (refine Fork.same ?_; (first | refine fkD ?_ ?_ | refine fkN ?_ ?_ | refine fkM ?_ ?_) <;> intro h) | refine MvQ.stay ?_)
          exact again0 (k + 1) ⟨hlt, succ_all hk.2 (hm_0 h3 h4 hj.2 hlt)⟩ (by omega) (by ((first | refine qen ?_ | refine qvs ?_ | refine qeq ?_ | refine qst ?_ | refine qv ?_ | refine qc ?_ | refine qe ?_ | refine qcs ?_ | skip); (repeat' first | exact rfl | (refine qS ?_; constructor))))
    · have : k = s.ho.length := by omega
      subst this
      rw [if_pos (eachN_ok.2 hk.2)] at hq
      clear hret hk hlt
      have hret : ∀ {k}, k < s.tk.length → (∀ i, i < k → plN s i = 0) → ∀ {e}, plN s k = e → ¬ e = 0 → q = ((k : Int), e) := fun hk h1 e he h2 => by
        have e := eachN_e hk h1 (by rw [he]; exact h2)
        rw [if_neg (by rw [e, he]; exact h2), e, he] at hq; exact hq
      (repeat' first | (refine Owe.same ?_; first | refine Owe.o ?_ | refine Owe.mk ?_ ?_) | (refine Fork.same ?_; (first | refine fkD ?_ ?_ | refine fkN ?_ ?_ | refine fkM ?_ ?_) <;> intro h) | refine MvQ.stay ?_)
      refine Sat.lp0 (fun k : Nat => [(8, vi .i64 k), (1, .c (.rp (siD s)))]) (fun k => k ≤ s.tk.length ∧ ∀ i, i < k → plN s i = 0) (fun k => s.tk.length - k) 0 ⟨Nat.zero_le _, fun i hi => by omega⟩ (by ((first | refine qen ?_ | refine qvs ?_ | refine qeq ?_ | refine qst ?_ | refine qv ?_ | refine qc ?_ | refine qe ?_ | refine qcs ?_ | skip); (repeat' first | exact rfl | (refine qS ?_; constructor)))) ?_
      intro k hk
      refine Fork.dec (fun hlt => ?_) (fun hlt => ?_)
      · have hlt : k < s.tk.length := by omega
        (repeat' first | (refine Owe.same ?_; first | refine Owe.o ?_ | refine Owe.mk ?_ ?_) | (refine Fork.same ?_; (first | refine fkD ?_ ?_ | refine fkN ?_ ?_ | refine fkM ?_ ?_) <;> intro h) | refine MvQ.stay ?_)
        · have h : (s.ho.length : Int) ≤ (s.tk.getD k tk0).p := h
          have hx := hret hlt hk.2 (e := 6) (by rw [plN, unl, decide_eq_false (by omega)]; rfl) (by decide)
          subst hx
          (refine rqK rfl ?_; (repeat' first | exact rfl | (refine qS ?_; constructor)))
        · have h : ¬ (s.ho.length : Int) ≤ (s.tk.getD k tk0).p := h
          exact again0 (k + 1) ⟨hlt, succ_all hk.2 (by rw [plN, unl, decide_eq_true (by omega)]; rfl)⟩ (by omega) (by ((first | refine qen ?_ | refine qvs ?_ | refine qeq ?_ | refine qst ?_ | refine qv ?_ | refine qc ?_ | refine qe ?_ | refine qcs ?_ | skip); (repeat' first | exact rfl | (refine qS ?_; constructor))))
      · have : k = s.tk.length := by omega
        subst this
        rw [if_pos (eachN_ok.2 hk.2)] at hq
        clear hret hk hlt
        (repeat' first | (refine Owe.same ?_; first | refine Owe.o ?_ | refine Owe.mk ?_ ?_) | (refine Fork.same ?_; (first | refine fkD ?_ ?_ | refine fkN ?_ ?_ | refine fkM ?_ ?_) <;> intro h) | refine MvQ.stay ?_)
        · rw [if_pos h] at hq; subst hq; (refine rqK rfl ?_; (repeat' first | exact rfl | (refine qS ?_; constructor)))
        · rw [if_neg h] at hq
          have hret : ∀ {k}, k < s.ti.length → (∀ i, i < k → tiN s i = 0) → ∀ {e}, tiN s k = e → ¬ e = 0 → q = ((k : Int), e) := fun hk h1 e he h2 => by
            have e := eachN_e hk h1 (by rw [he]; exact h2)
            rw [if_neg (by rw [e, he]; exact h2), e, he] at hq; exact hq
          refine Sat.lp0 (fun k : Nat => [(9, vi .i64 k), (1, .c (.rp (siD s)))]) (fun k => k ≤ s.ti.length ∧ ∀ i, i < k → tiN s i = 0) (fun k => s.ti.length - k) 0 ⟨Nat.zero_le _, fun i hi => by omega⟩ (by ((first | refine qen ?_ | refine qvs ?_ | refine qeq ?_ | refine qst ?_ | refine qv ?_ | refine qc ?_ | refine qe ?_ | refine qcs ?_ | skip); (repeat' first | exact rfl | (refine qS ?_; constructor)))) ?_
          intro k hk
          refine Fork.dec (fun hlt => ?_) (fun hlt => ?_)
          · have hlt : k < s.ti.length := by omega
            have hret := fun {e} => @hret k hlt hk.2 e
            have h2 := fun h => hret (ti_2 h) (by decide)
            have h9 := fun h h' => hret (ti_9 h h') (by decide)
            have h0 := fun h h' => ti_0 (s := s) (i := k) h h'
            have hla := fun h => lastT_of (s := s) (i := k) (x := (s.ti.getD k (0, 0, 0)).1) h
            (repeat' first | (refine Owe.same ?_; first | refine Owe.o ?_ | refine Owe.mk ?_ ?_) | (refine Fork.same ?_; (first | refine fkD ?_ ?_ | refine fkN ?_ ?_ | refine fkM ?_ ?_) <;> intro h) | ((first | refine OpsL.same ?_ | refine OpsDL.same ?_); first | refine pK C116 rfl rfl ?_ | refine pK C115 rfl rfl ?_) | refine MvQ.stay ?_)
            · have hx := h2 (fun hh => h hh.1.1)
              subst hx
              (refine rqK rfl ?_; (repeat' first | exact rfl | (refine qS ?_; constructor)))
            · have hx := h2 (fun hh => h hh.1.2)
              subst hx
              (refine rqK rfl ?_; (repeat' first | exact rfl | (refine qS ?_; constructor)))
            · have hx := h2 (fun hh => h hh.2)
              subst hx
              (refine rqK rfl ?_; (repeat' first | exact rfl | (refine qS ?_; constructor)))
            · have h : (s.ti.getD k (0, 0, 0)).2.1 < (s.ti.getD k (0, 0, 0)).1 := h
              have hx := h9 ⟨⟨‹_›, ‹_›⟩, ‹_›⟩ (fun hh => by omega)
              subst hx
              (refine rqK rfl ?_; (repeat' first | exact rfl | (refine qS ?_; constructor)))
            · rename_i g1 g2 g3 g4 g5
              have h : (s.ti.getD k (0, 0, 0)).1 ≤ (s.ti.getD ((k : Int) - 1).toNat (0, 0, 0)).2.1 := h
              rw [show ((k : Int) - 1).toNat = k - 1 by omega] at h
              have hx := h9 ⟨⟨g1, g2⟩, g3⟩ (fun hh => (hla g1.1).1 hh.2 ⟨by omega, h⟩)
              subst hx
              (refine rqK rfl ?_; (repeat' first | exact rfl | (refine qS ?_; constructor)))
            · rename_i g1 g2 g3 g4 g5
              have h : ¬ (s.ti.getD k (0, 0, 0)).1 ≤ (s.ti.getD ((k : Int) - 1).toNat (0, 0, 0)).2.1 := h
              have g4 : ¬ (s.ti.getD k (0, 0, 0)).2.1 < (s.ti.getD k (0, 0, 0)).1 := g4
              rw [show ((k : Int) - 1).toNat = k - 1 by omega] at h
              exact again0 (k + 1) ⟨hlt, succ_all hk.2 (h0 ⟨⟨g1, g2⟩, g3⟩ ⟨by omega, (hla g1.1).2 (fun hh => h hh.2)⟩)⟩ (by omega) (by ((first | refine qen ?_ | refine qvs ?_ | refine qeq ?_ | refine qst ?_ | refine qv ?_ | refine qc ?_ | refine qe ?_ | refine qcs ?_ | skip); (repeat' first | exact rfl | (refine qS ?_; constructor))))
            · rename_i g1 g2 g3 g4
              have g4 : ¬ (s.ti.getD k (0, 0, 0)).2.1 < (s.ti.getD k (0, 0, 0)).1 := g4
              exact again0 (k + 1) ⟨hlt, succ_all hk.2 (h0 ⟨⟨g1, g2⟩, g3⟩ ⟨by omega, (hla g1.1).2 (fun hh => by omega)⟩)⟩ (by omega) (by ((first | refine qen ?_ | refine qvs ?_ | refine qeq ?_ | refine qst ?_ | refine qv ?_ | refine qc ?_ | refine qe ?_ | refine qcs ?_ | skip); (repeat' first | exact rfl | (refine qS ?_; constructor))))
          · have : k = s.ti.length := by omega
            subst this
            rw [if_pos (eachN_ok.2 hk.2)] at hq
            have hf : ¬ (((isN s.idle ∧ isN s.swim) ∧ isN s.res) ∧ isT s.fin) → q = (0, 2) := fun h => by rw [hq, enE, unl, decide_eq_false h]; rfl
            have ht : (((isN s.idle ∧ isN s.swim) ∧ isN s.res) ∧ isT s.fin) → q = (0, 0) := fun h => by rw [hq, enE, unl, decide_eq_true h]; rfl
            clear hq
            (repeat' first | (refine Owe.same ?_; first | refine Owe.o ?_ | refine Owe.mk ?_ ?_) | (refine Fork.same ?_; (first | refine fkD ?_ ?_ | refine fkN ?_ ?_ | refine fkM ?_ ?_) <;> intro h) | ((first | refine OpsL.same ?_ | refine OpsDL.same ?_); first | refine pK C116 rfl rfl ?_ | refine pK C115 rfl rfl ?_) | refine MvQ.stay ?_)
            · have hx := hf (fun hh => h hh.1.1.1)
              subst hx
              (refine rqK rfl ?_; (repeat' first | exact rfl | (refine qS ?_; constructor)))
            · have hx := hf (fun hh => h hh.1.1.2)
              subst hx
              (refine rqK rfl ?_; (repeat' first | exact rfl | (refine qS ?_; constructor)))
            · have hx := hf (fun hh => h hh.1.2)
              subst hx
              (refine rqK rfl ?_; (repeat' first | exact rfl | (refine qS ?_; constructor)))
            · have hx := hf (fun hh => h hh.2)
              subst hx
              (refine rqK rfl ?_; (repeat' first | exact rfl | (refine qS ?_; constructor)))
            · rename_i g1 g2 g3
              have hx := ht ⟨⟨⟨g1, g2⟩, g3⟩, h⟩
              subst hx
              (refine rqK rfl ?_; (repeat' first | exact rfl | (refine qS ?_; constructor)))
end Go.Pw

set_option linter.unusedVariables false
set_option maxHeartbeats 2000000
set_option maxRecDepth 100000
namespace Go.Pw
open Go Go.Proofs
/-- moonpool/moonpoolref08.CopySite -/
def lc12m : LCode :=
  (.seq (.region [⟨some 1, .boxS (.tmp 0), none⟩, ⟨some 2, .alloc [(.slice none 0 0), (.slice none 0 0), (.slice none 0 0), (.slice none 0 0), (.int .i64 0), (.int .i64 0), (.int
    .i64 0), (.int .i64 0)], none⟩]) (.seq (.region [⟨some 5, .load true 8 (.tmp 1), none⟩, ⟨some 3, .alloc [(.slice none 0 0), (.slice none 0 0), (.slice none 0 0), (.slice none 0
    0), (.int .i64 0), (.int .i64 0), (.int .i64 0), (.int .i64 0)], none⟩, ⟨none, .store 8 (.tmp 3) (.tmp 5), none⟩]) (.seq (.region [⟨some 6, .fld 0 (.tmp 1), none⟩, ⟨some 7,
    .load false 1 (.tmp 6), none⟩, ⟨some 8, .call (.func 59) [(.tmp 7)], none⟩, ⟨some 9, .fld 0 (.tmp 3), none⟩, ⟨none, .store 1 (.tmp 9) (.tmp 8), none⟩]) (.seq (.region [⟨some 10,
    .fld 1 (.tmp 3), none⟩, ⟨none, .store 1 (.tmp 10) (.const (.slice none 0 0)), none⟩]) (.seq (.seq (.region [⟨some 4, .mv (.const (.int .i64 0)), none⟩]) (.block 0 (.loop (.seq
    (.seq (.region [⟨some 11, .mv (.tmp 4), none⟩, ⟨some 12, .fld 1 (.tmp 1), none⟩, ⟨some 13, .load false 1 (.tmp 12), none⟩, ⟨some 14, .len (.tmp 13), none⟩, ⟨some 15, .bin .lss
    (.tmp 11) (.tmp 14), none⟩]) (.cond (.tmp 15) .skip (.exit 0))) (.seq (.block 1 (.regionD [⟨some 18, .fld 1 (.tmp 3), none⟩, ⟨some 19, .load false 1 (.tmp 18), none⟩, ⟨some 20,
    .fld 1 (.tmp 1), none⟩, ⟨some 21, .load false 1 (.tmp 20), none⟩, ⟨some 22, .mv (.tmp 4), none⟩, ⟨some 23, .idx 1 (.tmp 21) (.tmp 22), none⟩, ⟨some 24, .load false 1 (.tmp 23),
    none⟩, ⟨some 25, .call (.func 14) [(.tmp 24)], none⟩, ⟨some 26, .lit false 24 1 [(.tmp 25)], none⟩, ⟨some 27, .append true 24 1 24 (.tmp 19) (.tmp 26), none⟩, ⟨some 28, .fld 1
    (.tmp 3), none⟩, ⟨none, .store 1 (.tmp 28) (.tmp 27), none⟩] [0, 1, 0, 4, 0, 28, 60, 124, 252, 511, 1023, 2047] [0, 1, 2, 3, 4, 5, 6, 7, 8, 9, 10, 11])) (.region [⟨some 16, .mv
    (.tmp 4), none⟩, ⟨some 17, .bin .add (.tmp 16) (.const (.int .i64 1)), none⟩, ⟨some 4, .mv (.tmp 17), none⟩])))))) (.seq (.region [⟨some 29, .fld 2 (.tmp 1), none⟩, ⟨some 30,
    .load false 1 (.tmp 29), none⟩, ⟨some 31, .call (.func 14) [(.tmp 30)], none⟩, ⟨some 32, .fld 2 (.tmp 3), none⟩, ⟨none, .store 1 (.tmp 32) (.tmp 31), none⟩]) (.seq (.region
    [⟨some 33, .lit false 134 3 [], none⟩, ⟨some 34, .fld 3 (.tmp 1), none⟩, ⟨some 35, .load false 1 (.tmp 34), none⟩, ⟨some 36, .append false 134 3 24 (.tmp 33) (.tmp 35), none⟩,
    ⟨some 37, .fld 3 (.tmp 3), none⟩, ⟨none, .store 1 (.tmp 37) (.tmp 36), none⟩]) (.seq (.region [⟨some 38, .load true 8 (.tmp 3), none⟩, ⟨none, .store 8 (.tmp 2) (.tmp 38),
    none⟩]) .ret))))))))
theorem low12m : lowF Tryz.prog [1, 27] Tryz.f12 = some (39, lc12m.strip, [.cell 2 true 8]) := by kernel_rfl
theorem fn12m : FnOk Tryz.prog 12 39 lc12m [.cell 2 true 8] := ⟨Tryz.call12, [1, 27], _, Tryz.func12, low12m⟩
end Go.Pw

set_option linter.unusedSimpArgs false
set_option linter.unusedVariables false
set_option maxHeartbeats 4000000
namespace Go.Pw
set_option maxRecDepth 2000
open Go Go.Proofs A1 A2 A3 A4
theorem C14 {l : List Int} : l.length ≤ 1000000 → PFD Tryz.prog 14 [.c (ints l)] (.c (ints l)) := fun h => by
  refine pi1 fn14 ?_
  (repeat' first | (refine Owe.same ?_; first | refine Owe.o ?_ | refine Owe.mk ?_ ?_) | (refine Fork.same ?_; (first | refine fkD ?_ ?_ | refine fkN ?_ ?_ | refine fkM ?_ ?_) <;> intro h) | refine MvQ.stay ?_)
  (refine rqK rfl ?_; (repeat' first | exact rfl | (refine qS ?_; constructor)))
theorem C13 {t : St8} : t.d.length ≤ 1000000 → PFD Tryz.prog 13 [stv t] (stv t) := fun h => by
  have c1 := C14 (l := t.d) h
  refine pi1 fn13 ?_
  (repeat' first | (refine Owe.same ?_; first | refine Owe.o ?_ | refine Owe.mk ?_ ?_) | (refine Fork.same ?_; (first | refine fkD ?_ ?_ | refine fkN ?_ ?_ | refine fkM ?_ ?_) <;> intro h) | ((first | refine OpsL.same ?_ | refine OpsDL.same ?_); first | refine pK c1 rfl rfl ?_) | refine MvQ.stay ?_)
  (refine rqK rfl ?_; (repeat' first | exact rfl | (refine qS ?_; constructor)))
theorem C59 {l : List Tk} : (l.length ≤ 1000000 ∧ TkSm l) → PFD Tryz.prog 59 [.c (tks l)] (.c (tks l)) := fun ⟨hl, hs⟩ => by
  refine pi1 fn59 ?_
  (repeat' first | (refine Owe.same ?_; first | refine Owe.o ?_ | refine Owe.mk ?_ ?_) | (refine Fork.same ?_; (first | refine fkD ?_ ?_ | refine fkN ?_ ?_ | refine fkM ?_ ?_) <;> intro h) | refine MvQ.stay ?_)
  refine Sat.nilS 3 119 9 (fun i => tkr (([] : List Tk).getD i tk0)) rfl ?_
  refine Sat.lp (fun k : Nat => ⟨[(4, vi .i64 k), (0, .c (tks l)), (3, .c (.ms 0 (l.take k).length))], [(0, rowv 119 9 tkr tk0 (l.take k))], 1⟩) (fun k => k ≤ l.length) (fun k => l.length - k) 0 [0] (Nat.zero_le _) ?_ ?_
  · (refine qis ?_ ?_ <;> (repeat' first | exact rfl | (refine qS ?_; constructor)))
  · intro k hk
    refine Fork.dec (fun hlt => ?_) (fun hlt => ?_)
    · have hlt : k < l.length := by omega
      have c1 := C14 (l := (l.getD k tk0).a) (hs k hlt).2
      have hl1 : (l.take k).length = k := by rw [List.length_take]; omega
      have htk : l.take (k + 1) = l.take k ++ [l.getD k tk0] := by
        rw [List.take_add_one, List.getElem?_eq_getElem hlt, List.getD_eq_getElem?_getD, List.getElem?_eq_getElem hlt]; rfl
      (repeat' first | (refine Owe.same ?_; first | refine Owe.o ?_ | refine Owe.mk ?_ ?_) | (refine Fork.same ?_; (first | refine fkD ?_ ?_ | refine fkN ?_ ?_ | refine fkM ?_ ?_) <;> intro h) | ((first | refine OpsL.same ?_ | refine OpsDL.same ?_); first | refine pK c1 rfl rfl ?_) | refine MvQ.stay ?_)
      refine again (k + 1) [2] hlt (by omega) ?_
      rw [htk]
      (refine qis ?_ ?_ <;> (repeat' first | exact rfl | (refine qS ?_; constructor)))
      · simp
      · exact ⟨l.getD k tk0, rfl, rfl⟩
    · have : k = l.length := by omega
      subst this
      (repeat' first | (refine Owe.same ?_; first | refine Owe.o ?_ | refine Owe.mk ?_ ?_) | (refine Fork.same ?_; (first | refine fkD ?_ ?_ | refine fkN ?_ ?_ | refine fkM ?_ ?_) <;> intro h) | refine MvQ.stay ?_)
      rw [List.take_length]
      refine rqF 0 _ rfl rfl rfl ?_; (repeat' first | exact rfl | (refine qS ?_; constructor))
theorem C12 {s : Si} : SiSm s → PFD Tryz.prog 12 [siv s] (siv s) := fun hs => by
  have c1 := C59 (l := s.tk) ⟨hs.tk, hs.t⟩
  have c2 := C14 (l := s.ho) hs.ho
  have htr := hs.tr
  have hti := hs.ti
  refine pi1 fn12m ?_
  (repeat' first | (refine Owe.same ?_; first | refine Owe.o ?_ | refine Owe.mk ?_ ?_) | (refine Fork.same ?_; (first | refine fkD ?_ ?_ | refine fkN ?_ ?_ | refine fkM ?_ ?_) <;> intro h) | ((first | refine OpsL.same ?_ | refine OpsDL.same ?_); first | refine pK c1 rfl rfl ?_) | refine MvQ.stay ?_)
  refine Sat.nilB 1 1 24 1 (fun i => [intsD (([] : List (List Int)).getD i [])]) rfl rfl ?_
  refine Sat.lp (fun k : Nat => ⟨[(4, vi .i64 k), (1, .c (.rp (siD s))), (2, .c (.bp 0 0)), (3, .c (.bp 1 0))], [(2, rowv 24 1 (fun l => [intsD l]) [] (s.tr.take k)), (1, .box [.d (tksD s.tk), .ms 2 (s.tr.take k).length, ints s.ho, trs s.ti, int s.idle, int s.swim, int s.res, int s.fin]), (0, .box [.d (.v (.slice none 0 0)), .d (.v (.slice none 0 0)), .d (.v (.slice none 0 0)), .d (.v (.slice none 0 0)), int 0, int 0, int 0, int 0])], 3⟩) (fun k => k ≤ s.tr.length) (fun k => s.tr.length - k) 0 [0, 1, 2] (Nat.zero_le _) ?_ ?_
  · (refine qis ?_ ?_ <;> (repeat' first | exact rfl | (refine qS ?_; constructor)))
  · intro k hk
    refine Fork.dec (fun hlt => ?_) (fun hlt => ?_)
    · have hlt : k < s.tr.length := by omega
      have c3 := C14 (l := s.tr.getD k []) (hs.r k hlt)
      have hl1 : (s.tr.take k).length = k := by rw [List.length_take]; omega
      have htk : s.tr.take (k + 1) = s.tr.take k ++ [s.tr.getD k []] := by
        rw [List.take_add_one, List.getElem?_eq_getElem hlt, List.getD_eq_getElem?_getD, List.getElem?_eq_getElem hlt]; rfl
      (repeat' first | (refine Owe.same ?_; first | refine Owe.o ?_ | refine Owe.mk ?_ ?_) | (refine Fork.same ?_; (first | refine fkD ?_ ?_ | refine fkN ?_ ?_ | refine fkM ?_ ?_) <;> intro h) | ((first | refine OpsL.same ?_ | refine OpsDL.same ?_); first | refine pK c3 rfl rfl ?_) | refine MvQ.stay ?_)
      refine again (k + 1) [0, 1, 11] hlt (by omega) ?_
      rw [htk]
      (refine qis ?_ ?_ <;> (repeat' first | exact rfl | (refine qS ?_; constructor)))
      · exact ⟨s.tr.getD k [], rfl, rfl⟩
      · simp
    · have : k = s.tr.length := by omega
      subst this
      rw [List.take_length]
      (repeat' first | (refine Owe.same ?_; first | refine Owe.o ?_ | refine Owe.mk ?_ ?_) | (refine Fork.same ?_; (first | refine fkD ?_ ?_ | refine fkN ?_ ?_ | refine fkM ?_ ?_) <;> intro h))
      refine MvQ.frzX 1 1 2 rfl rfl rfl (Nat.le_refl _) ?_
      (repeat' first | (refine Owe.same ?_; first | refine Owe.o ?_ | refine Owe.mk ?_ ?_) | (refine Fork.same ?_; (first | refine fkD ?_ ?_ | refine fkN ?_ ?_ | refine fkM ?_ ?_) <;> intro h) | ((first | refine OpsL.same ?_ | refine OpsDL.same ?_); first | refine pK c2 rfl rfl ?_) | refine MvQ.stay ?_)
      (refine rqK rfl ?_; (repeat' first | exact rfl | (refine qS ?_; constructor)))
end Go.Pw

set_option linter.unusedSimpArgs false
set_option linter.unusedVariables false
set_option maxHeartbeats 4000000
namespace Go.Pw
set_option maxRecDepth 2000
open Go Go.Proofs A1 A2 A3 A4
/-- The reference's error of a state of a site. -/
def rsE (s : Si) (t : St8) : Int × Int := if 0 ≤ t.p ∧ t.p ≤ (s.ho.length : Int) - 1 then (if (isT t.t ∧ 0 ≤ t.w ∧ t.w ≤ 100000000) ∧ isN t.o then ascE t.d s.tk.length else (0, 2)) else (0, 6)
theorem rsE_eq {s : Si} {t : St8} (h : (siE s).2 = 0) : stE s t = rsE s t := by
  have e : stF s t = if 0 ≤ t.p ∧ t.p ≤ (s.ho.length : Int) - 1 then (if (isT t.t ∧ 0 ≤ t.w ∧ t.w ≤ 100000000) ∧ isN t.o then 0 else 2) else 6 := by
    rw [stF, h]
    by_cases h1 : 0 ≤ t.p ∧ t.p ≤ (s.ho.length : Int) - 1
    · rw [if_pos h1, unl, decide_eq_true h1]
      by_cases h2 : (isT t.t ∧ 0 ≤ t.w ∧ t.w ≤ 100000000) ∧ isN t.o
      · rw [if_pos h2, stN, unl, decide_eq_true h2]; rfl
      · rw [if_neg h2, stN, unl, decide_eq_false h2]; rfl
    · rw [if_neg h1, unl, decide_eq_false h1]; rfl
  rw [stE, e, rsE]
  by_cases h1 : 0 ≤ t.p ∧ t.p ≤ (s.ho.length : Int) - 1
  · by_cases h2 : (isT t.t ∧ 0 ≤ t.w ∧ t.w ≤ 100000000) ∧ isN t.o
    · simp only [if_pos h1, if_pos h2]; rfl
    · simp only [if_pos h1, if_neg h2]; rfl
  · simp only [if_neg h1]; rfl
theorem C102 {s : Si} {t : St8} : (SiSm s ∧ t.d.length ≤ 1000000) → PFD Tryz.prog 102 [siv s, stv t] (.tup [vi .i64 (rsE s t).1, vi .i64 (rsE s t).2]) := fun ⟨hs, ht⟩ => by
  have hho := hs.ho
  have htk := hs.tk
  obtain ⟨q, hq⟩ : ∃ q, q = rsE s t := ⟨_, rfl⟩
  rw [← hq]
  rw [rsE] at hq
  refine pi2 fn102 ?_
  (repeat' first | (refine Owe.same ?_; first | refine Owe.o ?_ | refine Owe.mk ?_ ?_) | (refine Fork.same ?_; (first | refine fkD ?_ ?_ | refine fkN ?_ ?_ | refine fkM ?_ ?_) <;> intro h) | ((first | refine OpsL.same ?_ | refine OpsDL.same ?_); first | refine pK C75 rfl rfl ?_ | refine pK C116 rfl rfl ?_ | refine pK C115 rfl rfl ?_) | refine MvQ.stay ?_)
  · rw [if_neg h] at hq; subst hq; (refine rqK rfl ?_; (repeat' first | exact rfl | (refine qS ?_; constructor)))
  · rename_i h1
    rw [if_pos h1, if_neg (fun hh => h hh.1.1)] at hq; subst hq; (refine rqK rfl ?_; (repeat' first | exact rfl | (refine qS ?_; constructor)))
  · rename_i h1 h2
    rw [if_pos h1, if_neg (fun hh => h hh.1.2)] at hq; subst hq; (refine rqK rfl ?_; (repeat' first | exact rfl | (refine qS ?_; constructor)))
  · rename_i h1 h2 h3
    rw [if_pos h1, if_neg (fun hh => h hh.2)] at hq; subst hq; (refine rqK rfl ?_; (repeat' first | exact rfl | (refine qS ?_; constructor)))
  · rename_i h1 h2 h3
    rw [if_pos h1, if_pos ⟨⟨h2, h3⟩, h⟩] at hq
    clear h h1 h2 h3
    (repeat' first | (refine Owe.same ?_; first | refine Owe.o ?_ | refine Owe.mk ?_ ?_) | (refine Fork.same ?_; (first | refine fkD ?_ ?_ | refine fkN ?_ ?_ | refine fkM ?_ ?_) <;> intro h) | refine MvQ.stay ?_)
    refine Sat.lp0 (fun k : Nat => [(6, vi .i64 k), (2, .c (.rp (siD s))), (3, .c (.rp (stD t)))]) (fun k => k ≤ t.d.length ∧ ∀ i, i < k → ascN t.d s.tk.length i = 0) (fun k => t.d.length - k) 0 ⟨Nat.zero_le _, fun i hi => by omega⟩ (by ((first | refine qen ?_ | refine qvs ?_ | refine qeq ?_ | refine qst ?_ | refine qv ?_ | refine qc ?_ | refine qe ?_ | refine qcs ?_ | skip); (repeat' first | exact rfl | (refine qS ?_; constructor)))) ?_
    intro k hk
    refine Fork.dec (fun hlt => ?_) (fun hlt => ?_)
    · have hlt : k < t.d.length := by omega
      have hr : ∀ {e}, ascN t.d s.tk.length k = e → ¬ e = 0 → q = ((k : Int), e) := fun he h2 => by
        rw [hq, ascE, eachN_e hlt hk.2 (by rw [he]; exact h2), he]
      have c1 := C26 (s := s) (n := t.d.getD k 0) htk
      (repeat' first | (refine Owe.same ?_; first | refine Owe.o ?_ | refine Owe.mk ?_ ?_) | (refine Fork.same ?_; (first | refine fkD ?_ ?_ | refine fkN ?_ ?_ | refine fkM ?_ ?_) <;> intro h) | ((first | refine OpsL.same ?_ | refine OpsDL.same ?_); first | refine pK c1 rfl rfl ?_) | refine MvQ.stay ?_)
      · have hx := hr (ascN_6 h) (by decide)
        subst hx
        (refine rqK rfl ?_; (repeat' first | exact rfl | (refine qS ?_; constructor)))
      · have hx := hr (ascN_9 ‹_› (by omega) (by rw [show k - 1 = ((k : Int) - 1).toNat by omega]; exact h)) (by decide)
        subst hx
        (refine rqK rfl ?_; (repeat' first | exact rfl | (refine qS ?_; constructor)))
      · have h0 := ascN_0 (l := t.d) (b := s.tk.length) (j := k) ‹_› (fun _ => by
          have h : ¬ t.d.getD k 0 ≤ t.d.getD ((k : Int) - 1).toNat 0 := h
          rw [show k - 1 = ((k : Int) - 1).toNat by omega]; omega)
        exact again0 (k + 1) ⟨hlt, succ_all hk.2 h0⟩ (by omega) (by ((first | refine qen ?_ | refine qvs ?_ | refine qeq ?_ | refine qst ?_ | refine qv ?_ | refine qc ?_ | refine qe ?_ | refine qcs ?_ | skip); (repeat' first | exact rfl | (refine qS ?_; constructor))))
      · have h0 := ascN_0 (l := t.d) (b := s.tk.length) (j := k) ‹_› (fun hh => by omega)
        exact again0 (k + 1) ⟨hlt, succ_all hk.2 h0⟩ (by omega) (by ((first | refine qen ?_ | refine qvs ?_ | refine qeq ?_ | refine qst ?_ | refine qv ?_ | refine qc ?_ | refine qe ?_ | refine qcs ?_ | skip); (repeat' first | exact rfl | (refine qS ?_; constructor))))
    · have : k = t.d.length := by omega
      subst this
      rw [ascE, eachN_z hk.2] at hq
      subst hq
      (repeat' first | (refine Owe.same ?_; first | refine Owe.o ?_ | refine Owe.mk ?_ ?_) | (refine Fork.same ?_; (first | refine fkD ?_ ?_ | refine fkN ?_ ?_ | refine fkM ?_ ?_) <;> intro h) | refine MvQ.stay ?_)
      (refine rqK rfl ?_; (repeat' first | exact rfl | (refine qS ?_; constructor)))
theorem C25 {s : Si} : SiSm s → PFD Tryz.prog 25 [siv s] (vi .i64 (siE s).2) := fun hs => by
  have c1 := C74 hs
  refine pi1 fn25 ?_
  (repeat' first | (refine Owe.same ?_; first | refine Owe.o ?_ | refine Owe.mk ?_ ?_) | (refine Fork.same ?_; (first | refine fkD ?_ ?_ | refine fkN ?_ ?_ | refine fkM ?_ ?_) <;> intro h) | ((first | refine OpsL.same ?_ | refine OpsDL.same ?_); first | refine pK c1 rfl rfl ?_) | refine MvQ.stay ?_)
  (refine rqK rfl ?_; (repeat' first | exact rfl | (refine qS ?_; constructor)))
theorem C63 {s : Si} {t : St8} : (SiSm s ∧ t.d.length ≤ 1000000) → PFD Tryz.prog 63 [siv s, stv t] (vi .i64 (rsE s t).2) := fun hs => by
  have c1 := C102 hs
  refine pi1 fn63 ?_
  (repeat' first | (refine Owe.same ?_; first | refine Owe.o ?_ | refine Owe.mk ?_ ?_) | (refine Fork.same ?_; (first | refine fkD ?_ ?_ | refine fkN ?_ ?_ | refine fkM ?_ ?_) <;> intro h) | ((first | refine OpsL.same ?_ | refine OpsDL.same ?_); first | refine pK c1 rfl rfl ?_) | refine MvQ.stay ?_)
  (refine rqK rfl ?_; (repeat' first | exact rfl | (refine qS ?_; constructor)))
theorem onE_of {s : Si} {t : St8} (h : ¬ (siE s).2 = 0) : onE s t = (siE s).2 := by rw [onE, fstE, if_neg h]
theorem onE_eq {s : Si} {t : St8} (h : (siE s).2 = 0) : onE s t = (rsE s t).2 := by
  rw [onE, fstE, if_pos h, fstE, rsE_eq h]
  split
  · rename_i h; rw [h]; rfl
  · rfl
theorem C16 {s : Si} {t : St8} : (SiSm s ∧ t.d.length ≤ 1000000) → PFD Tryz.prog 16 [siv s, stv t] (vi .i64 (onE s t)) := fun hs => by
  have c1 := C25 hs.1
  have c2 := C63 hs
  obtain ⟨q, hq⟩ : ∃ q, q = onE s t := ⟨_, rfl⟩
  rw [← hq]
  refine pi1 fn16 ?_
  (repeat' first | (refine Owe.same ?_; first | refine Owe.o ?_ | refine Owe.mk ?_ ?_) | (refine Fork.same ?_; (first | refine fkD ?_ ?_ | refine fkN ?_ ?_ | refine fkM ?_ ?_) <;> intro h) | ((first | refine OpsL.same ?_ | refine OpsDL.same ?_); first | refine pK c1 rfl rfl ?_ | refine pK c2 rfl rfl ?_) | refine MvQ.stay ?_)
  · rw [onE_of h] at hq; subst hq; (refine rqK rfl ?_; (repeat' first | exact rfl | (refine qS ?_; constructor)))
  · rw [onE_eq h] at hq; subst hq; (refine rqK rfl ?_; (repeat' first | exact rfl | (refine qS ?_; constructor)))
/-- Equal states. -/
abbrev sameB (a b : St8) : Bool := decide (a.p = b.p ∧ a.t = b.t ∧ a.w = b.w ∧ a.o = b.o ∧ a.d = b.d)
theorem C35 {a b : St8} : a.d.length < 4611686018427387904 → PFD Tryz.prog 35 [stv a, stv b] (vbl (sameB a b)) := fun h => by
  have c1 := C18 (l := a.d) (m := b.d) h
  refine pi1 fn35 ?_
  (repeat' first | (refine Owe.same ?_; first | refine Owe.o ?_ | refine Owe.mk ?_ ?_) | (refine Fork.same ?_; (first | refine fkD ?_ ?_ | refine fkN ?_ ?_ | refine fkM ?_ ?_) <;> intro h) | ((first | refine OpsL.same ?_ | refine OpsDL.same ?_); first | refine pK c1 rfl rfl ?_) | refine MvQ.stay ?_)
  all_goals ((refine rqK rfl ?_; (repeat' first | exact rfl | (refine qS ?_; constructor))); simp only [sameB, decide_eq_decide, decide_eq_false_iff_not, decide_eq_true_eq]; simp_all)
end Go.Pw

set_option linter.unusedSimpArgs false
set_option linter.unusedVariables false
set_option maxHeartbeats 4000000
namespace Go.Pw
set_option maxRecDepth 2000
open Go Go.Proofs A1 A2 A3 A4
theorem DI.take {l : List Int} {k : Nat} {f : Nat → List D} (hk : k ≤ l.length) (hf : ∀ i, i < k → f i = r1 (l.getD i 0)) : DI (.sl 1 k f) (intsD (l.take k)) := by
  have e : (l.take k).length = k := by rw [List.length_take]; omega
  show DI _ (.sl 1 (l.take k).length _)
  rw [e]
  refine DI.sl fun i hi => ?_
  have e2 : (l.take k).getD i 0 = l.getD i 0 := by simp only [List.getD_eq_getElem?_getD, List.getElem?_take, hi, if_true]
  rw [hf i hi, e2]
  exact DIs.refl _
theorem DI.drop {l : List Int} {k m : Nat} {f : Nat → List D} (hm : m = l.length - k) (hf : ∀ i, i < m → f i = r1 (l.getD (k + i) 0)) : DI (.sl 1 m f) (intsD (l.drop k)) := by
  subst hm
  show DI _ (.sl 1 (l.drop k).length _)
  rw [List.length_drop]
  refine DI.sl fun i hi => ?_
  have e2 : (l.drop k).getD i 0 = l.getD (k + i) 0 := by simp only [List.getD_eq_getElem?_getD, List.getElem?_drop]
  rw [hf i hi, e2]
  exact DIs.refl _
/-- The error of numbers of tasks. -/
abbrev nuN (s : Si) (l : List Int) (i : Nat) : Int := fstE [unl (0 ≤ l.getD i 0 ∧ l.getD i 0 ≤ (s.tk.length : Int) - 1) 6, unb (!decide (l.getD i 0 ∈ l.take i)) 23]
def nuE (s : Si) (l : List Int) : Int := (eachN (nuN s l) 0 l.length).2
theorem nuE_ok {s : Si} {l : List Int} : nuE s l = 0 ↔ tkNs s l ∧ l.Nodup := by
  rw [nuE, eachN_ok]
  constructor
  · intro h
    have h1 : ∀ i, i < l.length → (0 ≤ l.getD i 0 ∧ l.getD i 0 ≤ (s.tk.length : Int) - 1) ∧ l.getD i 0 ∉ l.take i := fun i hi => by
      have := h i hi
      rw [nuN, fst2, unl0 (by decide), unb_ok (by decide)] at this
      exact ⟨this.1, by simpa using this.2⟩
    refine ⟨fun i hi => by have := (h1 i hi).1; omega, ?_⟩
    rw [List.nodup_iff_pairwise_ne, List.pairwise_iff_getElem]
    intro i j hi hj hij e
    refine (h1 j hj).2 ?_
    rw [List.getD_eq_getElem?_getD, List.getElem?_eq_getElem hj]
    show l[j] ∈ _
    rw [← e]
    have h2 : (l.take j)[i]? = some l[i] := by rw [List.getElem?_take, if_pos hij, List.getElem?_eq_getElem hi]
    exact List.mem_of_getElem? h2
  · rintro ⟨h1, h2⟩ i hi
    rw [nuN, fst2, unl0 (by decide), unb_ok (by decide)]
    refine ⟨by have := h1 i hi; omega, ?_⟩
    rw [Bool.not_eq_true', decide_eq_false_iff_not]
    intro hm
    obtain ⟨j, hj, e⟩ := List.getElem_of_mem hm
    rw [List.length_take] at hj
    rw [List.getElem_take, List.getD_eq_getElem?_getD, List.getElem?_eq_getElem hi] at e
    rw [List.nodup_iff_pairwise_ne, List.pairwise_iff_getElem] at h2
    exact h2 j i (by omega) hi (by omega) e
/-- Some number is done. -/
abbrev dnB (t : St8) (l : List Int) : Bool := l.any fun n => decide (n ∈ t.d)
theorem SetOk.of {s : Si} {t : St8} {l : List Int} (h : nuE s l = 0) (h1 : dnB t l = false) : SetOk s t l where
  n := (nuE_ok.1 h).1
  u := (nuE_ok.1 h).2
  d := fun x hx => by have := List.any_eq_false.1 h1 x hx; simpa using this
abbrev tgB (s : Si) (t : St8) (l : List Int) : Bool := togB s l.length t l
end Go.Pw

set_option linter.unusedSimpArgs false
set_option linter.unusedVariables false
set_option maxHeartbeats 4000000
namespace Go.Pw
set_option maxRecDepth 2000
open Go Go.Proofs A1 A2 A3 A4
theorem bit_i64 {b i : Nat} (hb : b < 2 ^ 62) (hi : i < 64) : decide (IntKind.i64.wrap ((BitVec.ofInt IntKind.i64.bits ((b : Int).fdiv (2 ^ min (Int.toNat (i : Int)) IntKind.i64.bits)) &&& BitVec.ofInt IntKind.i64.bits 1).toNat : Nat) = 1) = b.testBit i := by
  have hbits : IntKind.i64.bits = 64 := rfl
  have e1 : (b : Int).fdiv (2 ^ min (Int.toNat (i : Int)) IntKind.i64.bits) = ((b / 2 ^ i : Nat) : Int) := by
    rw [hbits, Int.toNat_natCast, Nat.min_eq_left (by omega), Int.fdiv_eq_ediv_of_nonneg _ (Int.pow_nonneg (by decide))]
    norm_cast
  rw [e1, Nat.testBit_eq_decide_div_mod_eq]
  have hlt : b / 2 ^ i < 2 ^ 62 := by
    have := Nat.div_le_self b (2 ^ i)
    omega
  generalize b / 2 ^ i = q at hlt ⊢
  have e2 : (BitVec.ofInt IntKind.i64.bits (q : Int) &&& BitVec.ofInt IntKind.i64.bits 1).toNat = q % 2 := by
    rw [BitVec.toNat_and]
    have f1 : (BitVec.ofInt IntKind.i64.bits (q : Int)).toNat = q := by
      rw [BitVec.toNat_ofInt, hbits]; omega
    have f2 : (BitVec.ofInt IntKind.i64.bits 1).toNat = 1 := rfl
    rw [f1, f2, Nat.and_one_is_mod]
  rw [e2]
  have e3 : IntKind.i64.wrap ((q % 2 : Nat) : Int) = ((q % 2 : Nat) : Int) := by
    rcases (show q % 2 = 0 ∨ q % 2 = 1 by omega) with h | h <;> rw [h] <;> rfl
  rw [e3, Bool.eq_iff_iff, decide_eq_true_eq, decide_eq_true_eq]
  omega
theorem shl_i64 {n : Nat} (h : n ≤ 20) : IntKind.i64.wrap (1 * 2 ^ min (Int.toNat (n : Int)) IntKind.i64.bits) = ((2 ^ n : Nat) : Int) := by
  have : n = 0 ∨ n = 1 ∨ n = 2 ∨ n = 3 ∨ n = 4 ∨ n = 5 ∨ n = 6 ∨ n = 7 ∨ n = 8 ∨ n = 9 ∨ n = 10 ∨ n = 11 ∨ n = 12 ∨ n = 13 ∨ n = 14 ∨ n = 15 ∨ n = 16 ∨ n = 17 ∨ n = 18 ∨ n = 19 ∨ n = 20 := by omega
  rcases this with h | h | h | h | h | h | h | h | h | h | h | h | h | h | h | h | h | h | h | h | h <;> subst h <;> decide
theorem fltL_asc {p : Nat → Bool} {n : Nat} : (fltL p n).Pairwise (· < ·) := by
  rw [fltL, List.pairwise_map]
  refine List.Pairwise.filter _ ?_
  exact List.pairwise_lt_range.imp fun h => Int.ofNat_lt.2 h
/-- The numbers of a set, as bits say. -/
abbrev subL (n b : Nat) : List Int := fltL (fun i => b.testBit i) n
theorem subL_mem {n b : Nat} {x : Int} (h : x ∈ subL n b) : 0 ≤ x ∧ x < n := by
  simp only [subL, fltL, List.mem_map, List.mem_filter, List.mem_range] at h
  obtain ⟨i, ⟨h1, _⟩, rfl⟩ := h
  omega
theorem subL_nd {n b : Nat} : (subL n b).Nodup := by
  rw [List.nodup_iff_pairwise_ne]
  exact fltL_asc.imp fun h => by omega
/-- The slice of the best one, or none. -/
abbrev nilO : Option (List Int) → V
  | none => .c (.d (.v (.slice none 0 0)))
  | some l => .c (ints l)
abbrev smO (o : Option (List Int)) (l : List Int) : Bool := match o with
  | none => true
  | some m => decide (fstE [cmpI l.length m.length, cmpL l m] < 0)
/-- A set of tasks that do not go together. -/
abbrev clB (s : Si) (t : St8) (l : List Int) : Bool := !dnB t l && !tgB s t l
def clK (s : Si) (t : St8) (n : Nat) : Nat → Option (List Int)
  | 0 => none
  | b + 1 => if smO (clK s t n b) (subL n b) = true ∧ clB s t (subL n b) = true then some (subL n b) else clK s t n b
abbrev clO (s : Si) (t : St8) : Option (List Int) := clK s t s.tk.length (2 ^ s.tk.length)
def clE (s : Si) (t : St8) : List Int × Int := if onE s t = 0 then (match clO s t with | none => ([], 12) | some l => (l, 0)) else ([], onE s t)
theorem SetOk.sub {s : Si} {t : St8} {b : Nat} (h : dnB t (subL s.tk.length b) = false) : SetOk s t (subL s.tk.length b) where
  n := fun i hi => subL_mem (getD_mem 0 hi)
  u := subL_nd
  d := fun x hx => by have := List.any_eq_false.1 h x hx; simpa using this
theorem clK_len {s : Si} {t : St8} {n : Nat} : ∀ {b : Nat} {l : List Int}, clK s t n b = some l → l.length ≤ n ∧ 0 < l.length
  | 0, l, h => by cases h
  | b + 1, l, h => by
    rw [clK] at h
    split at h
    · rename_i hh
      cases h
      refine ⟨fltL_len _ _, ?_⟩
      rcases Nat.eq_zero_or_pos (subL n b).length with h0 | h0
      · have e := List.eq_nil_of_length_eq_zero h0
        rw [e] at hh
        have := hh.2
        simp [clB, tgB, togB] at this
      · exact h0
    · exact clK_len h
theorem C15 {s : Si} {t : St8} : (SiSm s ∧ t.d.length ≤ 1000000) → PFD Tryz.prog 15 [siv s, stv t] (.tup [.c (ints (clE s t).1), vi .i64 (clE s t).2]) := fun ⟨hs, ht⟩ => by
  have c1 := C52 (s := s) (t := t) ⟨hs, ht⟩
  obtain ⟨q, hq⟩ : ∃ q, q = clE s t := ⟨_, rfl⟩
  rw [← hq]
  rw [clE] at hq
  by_cases h0 : onE s t = 0
  · rw [if_pos h0, clO] at hq
    rw [h0] at c1
    have hO := OnOk.of h0
    have hn := hO.ok.n
    have hshl := shl_i64 (n := s.tk.length) (by omega)
    have hpow : 2 ^ s.tk.length ≤ 2 ^ 6 := Nat.pow_le_pow_right (by decide) hn
    have hpos : 1 ≤ 2 ^ s.tk.length := Nat.one_le_two_pow
    obtain ⟨N, hN⟩ : ∃ N, N = 2 ^ s.tk.length := ⟨_, rfl⟩
    rw [← hN] at hshl hpow hq hpos
    have hst : none = clK s t s.tk.length 1 := by
      have e : subL s.tk.length 0 = [] := by
        rw [subL, fltL, List.map_eq_nil_iff, List.filter_eq_nil_iff]; simp
      rw [clK, clK, e, if_neg]
      rintro ⟨_, h⟩
      simp [clB, tgB, togB] at h
    refine pi2 fn15 ?_
    (repeat' first | (refine Owe.same ?_; first | refine Owe.o ?_ | refine Owe.mk ?_ ?_) | (refine Fork.same ?_; (first | refine fkY ?_ | refine fkF ?_ | ((first | refine fkD ?_ ?_ | refine fkN ?_ ?_ | refine fkM ?_ ?_) <;> intro h))) | ((first | refine OpsL.same ?_ | refine OpsDL.same ?_); first | refine oK c1 rfl rfl rfl ?_) | refine MvQ.stay ?_)
    (repeat' first | (refine Owe.same ?_; first | refine Owe.o ?_ | refine Owe.mk ?_ ?_) | (refine Fork.same ?_; (first | refine fkD ?_ ?_ | refine fkN ?_ ?_ | refine fkM ?_ ?_) <;> intro h) | refine MvQ.stay ?_)
    refine Sat.lp (fun ((b, o) : Nat × Option (List Int)) => ⟨[(9, vi .i64 b), (8, nilO o), (2, .c (.rp (siD s))), (6, .c (.bp 0 0))], [(0, .box (diC s t))], 1⟩) (fun ((b, o) : Nat × Option (List Int)) => b ≤ N ∧ o = clK s t s.tk.length b) (fun ((b, _) : Nat × Option (List Int)) => N - b) (1, none) [0] ⟨hpos, hst⟩ ?_ ?_
    · (refine qis ?_ ?_ <;> (repeat' first | exact rfl | (refine qS ?_; constructor)))
    · intro ⟨b, o⟩ ⟨hb, ho⟩
      rcases o with _ | m
      · rcases Nat.lt_or_eq_of_le hb with hbl | rfl
        rotate_left
        · rw [← ho] at hq
          (repeat' first | (refine Owe.same ?_; first | refine Owe.o ?_ | refine Owe.mk ?_ ?_) | (refine Fork.same ?_; (first | refine fkY ?_ | refine fkF ?_ | ((first | refine fkD ?_ ?_ | refine fkN ?_ ?_ | refine fkM ?_ ?_) <;> intro h))) | ((first | refine OpsL.same ?_ | refine OpsDL.same ?_); first | refine oK C55 rfl rfl rfl ?_) | refine MvQ.stay ?_)
          subst hq
          (refine rqK rfl ?_; (repeat' first | exact rfl | (refine qS ?_; constructor)))
        · (repeat' first | (refine Owe.same ?_; first | refine Owe.o ?_ | refine Owe.mk ?_ ?_) | (refine Fork.same ?_; (first | refine fkD ?_ ?_ | refine fkN ?_ ?_ | refine fkM ?_ ?_) <;> intro h) | refine MvQ.stay ?_)
          rotate_left
          · rw [hshl] at h; omega
          · refine Sat.nilS 10 3 1 (fun i => r1 (([] : List Int).getD i 0)) rfl ?_
            refine Sat.lp (fun i : Nat => ⟨[(33, vi .i64 i), (32, vi .i64 s.tk.length), (10, .c (.ms 1 (fltL (fun i => b.testBit i) i).length)), (9, vi .i64 b), (8, nilO none), (2, .c (.rp (siD s))), (6, .c (.bp 0 0))], [(1, rowv 3 1 r1 0 (fltL (fun i => b.testBit i) i)), (0, .box (diC s t))], 2⟩)
              (fun i => i ≤ s.tk.length) (fun i => s.tk.length - i) 0 [0, 1] (Nat.zero_le _) ?_ ?_
            · (refine qis ?_ ?_ <;> (repeat' first | exact rfl | (refine qS ?_; constructor)))
            · intro i hi
              have hfl := fltL_len (fun i => b.testBit i) i
              have hfs := fltL_succ (fun i => b.testBit i) i
              refine Fork.dec (fun hli => ?_) (fun hli => ?_)
              · have hli : i < s.tk.length := by omega
                have htb := bit_i64 (b := b) (i := i) (by omega) (by omega)
                (repeat' first | (refine Owe.same ?_; first | refine Owe.o ?_ | refine Owe.mk ?_ ?_) | (refine Fork.same ?_; (first | refine fkD ?_ ?_ | refine fkN ?_ ?_ | refine fkM ?_ ?_) <;> intro h) | refine MvQ.stay ?_)
                · have h : decide _ = true := decide_eq_true h
                  rw [htb] at h
                  rw [if_pos h] at hfs
                  refine again (i + 1) [0, 2] hli (by omega) ?_
                  (refine qis ?_ ?_ <;> (repeat' first | exact rfl | (refine qS ?_; constructor)))
                  · rw [hfs]; simp
                  · exact hfs
                · have h : decide _ = false := decide_eq_false h
                  rw [htb] at h
                  rw [if_neg (by rw [h]; decide)] at hfs
                  refine again (i + 1) [0, 1] hli (by omega) ?_
                  (refine qis ?_ ?_ <;> (repeat' first | exact rfl | (refine qS ?_; constructor)))
                  · rw [hfs]
                  · rw [hfs]
              · have : i = s.tk.length := by omega
                subst this
                have hsl : (subL s.tk.length b).length ≤ s.tk.length := hfl
                have c3 := C56b (g := 57) (ds := diD s t) (l := subL s.tk.length b) (f := fun i => decide ((subL s.tk.length b).getD i 0 ∈ t.d)) (fun i hi => C57 ht) (by omega)
                rw [anyN_mem (p := fun n => decide (n ∈ t.d))] at c3
                change PFD Tryz.prog 56 _ (vbl (dnB t (subL s.tk.length b))) at c3
                have c4 := fun hd => C58 hs.t (subL s.tk.length b).length hO (SetOk.sub (b := b) hd) (Nat.le_refl _)
                change dnB t (subL s.tk.length b) = false → PFD Tryz.prog 58 _ (vbl (tgB s t (subL s.tk.length b))) at c4
                have hnx : clK s t s.tk.length (b + 1) = if smO (clK s t s.tk.length b) (subL s.tk.length b) = true ∧ clB s t (subL s.tk.length b) = true then some (subL s.tk.length b) else clK s t s.tk.length b := rfl
                rw [← ho] at hnx
                (repeat' first | (refine Owe.same ?_; first | refine Owe.o ?_ | refine Owe.mk ?_ ?_) | (refine Fork.same ?_; (first | refine fkD ?_ ?_ | refine fkN ?_ ?_ | refine fkM ?_ ?_) <;> intro h) | refine MvQ.stay ?_)
                refine OpsL.frz 10 _ rfl rfl (Nat.le_refl _) ?_
                refine OpsL.frz 63 _ rfl rfl (Nat.le_refl _) ?_
                rcases hd : dnB t (subL s.tk.length b) with _ | _
                · rw [hd] at c3
                  have c4 := c4 hd
                  rw [clB, hd] at hnx
                  rcases hg : tgB s t (subL s.tk.length b) with _ | _
                  · rw [hg] at c4 hnx
                    rw [if_pos ⟨rfl, rfl⟩] at hnx
                    (repeat' first | (refine Owe.same ?_; first | refine Owe.o ?_ | refine Owe.mk ?_ ?_) | (refine Fork.same ?_; (first | refine fkY ?_ | refine fkF ?_ | ((first | refine fkD ?_ ?_ | refine fkN ?_ ?_ | refine fkM ?_ ?_) <;> intro h))) | ((first | refine OpsL.same ?_ | refine OpsDL.same ?_); first | refine oK c3 rfl rfl rfl ?_) | refine MvQ.stay ?_)
                    (repeat' first | (refine Owe.same ?_; first | refine Owe.o ?_ | refine Owe.mk ?_ ?_) | (refine Fork.same ?_; (first | refine fkY ?_ | refine fkF ?_ | ((first | refine fkD ?_ ?_ | refine fkN ?_ ?_ | refine fkM ?_ ?_) <;> intro h))) | ((first | refine OpsL.same ?_ | refine OpsDL.same ?_); first | refine oK c4 rfl rfl rfl ?_) | refine MvQ.stay ?_)
                    refine again (b + 1, some (subL s.tk.length b)) [0] ⟨hbl, hnx.symm⟩ (by show N - (b + 1) < N - b; omega) ?_
                    (refine qis ?_ ?_ <;> (repeat' first | exact rfl | (refine qS ?_; constructor)))
                  · rw [hg] at c4 hnx
                    rw [if_neg (by simp)] at hnx
                    (repeat' first | (refine Owe.same ?_; first | refine Owe.o ?_ | refine Owe.mk ?_ ?_) | (refine Fork.same ?_; (first | refine fkY ?_ | refine fkF ?_ | ((first | refine fkD ?_ ?_ | refine fkN ?_ ?_ | refine fkM ?_ ?_) <;> intro h))) | ((first | refine OpsL.same ?_ | refine OpsDL.same ?_); first | refine oK c3 rfl rfl rfl ?_) | refine MvQ.stay ?_)
                    (repeat' first | (refine Owe.same ?_; first | refine Owe.o ?_ | refine Owe.mk ?_ ?_) | (refine Fork.same ?_; (first | refine fkY ?_ | refine fkF ?_ | ((first | refine fkD ?_ ?_ | refine fkN ?_ ?_ | refine fkM ?_ ?_) <;> intro h))) | ((first | refine OpsL.same ?_ | refine OpsDL.same ?_); first | refine oK c4 rfl rfl rfl ?_) | refine MvQ.stay ?_)
                    refine again (b + 1, none) [0] ⟨hbl, hnx.symm⟩ (by show N - (b + 1) < N - b; omega) ?_
                    (refine qis ?_ ?_ <;> (repeat' first | exact rfl | (refine qS ?_; constructor)))
                · rw [hd] at c3
                  rw [clB, hd, if_neg (by simp)] at hnx
                  (repeat' first | (refine Owe.same ?_; first | refine Owe.o ?_ | refine Owe.mk ?_ ?_) | (refine Fork.same ?_; (first | refine fkY ?_ | refine fkF ?_ | ((first | refine fkD ?_ ?_ | refine fkN ?_ ?_ | refine fkM ?_ ?_) <;> intro h))) | ((first | refine OpsL.same ?_ | refine OpsDL.same ?_); first | refine oK c3 rfl rfl rfl ?_) | refine MvQ.stay ?_)
                  refine again (b + 1, none) [0] ⟨hbl, hnx.symm⟩ (by show N - (b + 1) < N - b; omega) ?_
                  (refine qis ?_ ?_ <;> (repeat' first | exact rfl | (refine qS ?_; constructor)))
      · rcases Nat.lt_or_eq_of_le hb with hbl | rfl
        rotate_left
        · rw [← ho] at hq
          have hm := clK_len ho.symm
          (repeat' first | (refine Owe.same ?_; first | refine Owe.o ?_ | refine Owe.mk ?_ ?_) | (refine Fork.same ?_; (first | refine fkY ?_ | refine fkF ?_ | ((first | refine fkD ?_ ?_ | refine fkN ?_ ?_ | refine fkM ?_ ?_) <;> intro h))) | ((first | refine OpsL.same ?_ | refine OpsDL.same ?_); first | refine oK C55 rfl rfl rfl ?_) | refine MvQ.stay ?_)
          subst hq
          (refine rqK rfl ?_; (repeat' first | exact rfl | (refine qS ?_; constructor)))
        · (repeat' first | (refine Owe.same ?_; first | refine Owe.o ?_ | refine Owe.mk ?_ ?_) | (refine Fork.same ?_; (first | refine fkD ?_ ?_ | refine fkN ?_ ?_ | refine fkM ?_ ?_) <;> intro h) | refine MvQ.stay ?_)
          rotate_left
          · rw [hshl] at h; omega
          · refine Sat.nilS 10 3 1 (fun i => r1 (([] : List Int).getD i 0)) rfl ?_
            refine Sat.lp (fun i : Nat => ⟨[(33, vi .i64 i), (32, vi .i64 s.tk.length), (10, .c (.ms 1 (fltL (fun i => b.testBit i) i).length)), (9, vi .i64 b), (8, nilO (some m)), (2, .c (.rp (siD s))), (6, .c (.bp 0 0))], [(1, rowv 3 1 r1 0 (fltL (fun i => b.testBit i) i)), (0, .box (diC s t))], 2⟩)
              (fun i => i ≤ s.tk.length) (fun i => s.tk.length - i) 0 [0, 1] (Nat.zero_le _) ?_ ?_
            · (refine qis ?_ ?_ <;> (repeat' first | exact rfl | (refine qS ?_; constructor)))
            · intro i hi
              have hfl := fltL_len (fun i => b.testBit i) i
              have hfs := fltL_succ (fun i => b.testBit i) i
              refine Fork.dec (fun hli => ?_) (fun hli => ?_)
              · have hli : i < s.tk.length := by omega
                have htb := bit_i64 (b := b) (i := i) (by omega) (by omega)
                (repeat' first | (refine Owe.same ?_; first | refine Owe.o ?_ | refine Owe.mk ?_ ?_) | (refine Fork.same ?_; (first | refine fkD ?_ ?_ | refine fkN ?_ ?_ | refine fkM ?_ ?_) <;> intro h) | refine MvQ.stay ?_)
                · have h : decide _ = true := decide_eq_true h
                  rw [htb] at h
                  rw [if_pos h] at hfs
                  refine again (i + 1) [0, 2] hli (by omega) ?_
                  (refine qis ?_ ?_ <;> (repeat' first | exact rfl | (refine qS ?_; constructor)))
                  · rw [hfs]; simp
                  · exact hfs
                · have h : decide _ = false := decide_eq_false h
                  rw [htb] at h
                  rw [if_neg (by rw [h]; decide)] at hfs
                  refine again (i + 1) [0, 1] hli (by omega) ?_
                  (refine qis ?_ ?_ <;> (repeat' first | exact rfl | (refine qS ?_; constructor)))
                  · rw [hfs]
                  · rw [hfs]
              · have : i = s.tk.length := by omega
                subst this
                have hsl : (subL s.tk.length b).length ≤ s.tk.length := hfl
                have c3 := C56b (g := 57) (ds := diD s t) (l := subL s.tk.length b) (f := fun i => decide ((subL s.tk.length b).getD i 0 ∈ t.d)) (fun i hi => C57 ht) (by omega)
                rw [anyN_mem (p := fun n => decide (n ∈ t.d))] at c3
                change PFD Tryz.prog 56 _ (vbl (dnB t (subL s.tk.length b))) at c3
                have c4 := fun hd => C58 hs.t (subL s.tk.length b).length hO (SetOk.sub (b := b) hd) (Nat.le_refl _)
                change dnB t (subL s.tk.length b) = false → PFD Tryz.prog 58 _ (vbl (tgB s t (subL s.tk.length b))) at c4
                have hnx : clK s t s.tk.length (b + 1) = if smO (clK s t s.tk.length b) (subL s.tk.length b) = true ∧ clB s t (subL s.tk.length b) = true then some (subL s.tk.length b) else clK s t s.tk.length b := rfl
                rw [← ho] at hnx
                have hm := clK_len ho.symm
                have c5 := C62 (l := subL s.tk.length b) (m := m) ⟨by omega, by omega⟩
                (repeat' first | (refine Owe.same ?_; first | refine Owe.o ?_ | refine Owe.mk ?_ ?_) | (refine Fork.same ?_; (first | refine fkD ?_ ?_ | refine fkN ?_ ?_ | refine fkM ?_ ?_) <;> intro h) | refine MvQ.stay ?_)
                refine OpsL.frz 10 _ rfl rfl (Nat.le_refl _) ?_
                (repeat' first | (refine Owe.same ?_; first | refine Owe.o ?_ | refine Owe.mk ?_ ?_) | (refine Fork.same ?_; (first | refine fkY ?_ | refine fkF ?_ | ((first | refine fkD ?_ ?_ | refine fkN ?_ ?_ | refine fkM ?_ ?_) <;> intro h))) | ((first | refine OpsL.same ?_ | refine OpsDL.same ?_); first | refine pK C61 rfl rfl ?_ | refine pK c5 rfl rfl ?_ | refine pK C60 rfl rfl ?_) | refine MvQ.stay ?_)
                · have hs1 : smO (some m) (subL s.tk.length b) = true := decide_eq_true h
                  rw [hs1] at hnx
                  rcases hd : dnB t (subL s.tk.length b) with _ | _
                  · rw [hd] at c3
                    have c4 := c4 hd
                    rw [clB, hd] at hnx
                    rcases hg : tgB s t (subL s.tk.length b) with _ | _
                    · rw [hg] at c4 hnx
                      rw [if_pos ⟨rfl, rfl⟩] at hnx
                      (repeat' first | (refine Owe.same ?_; first | refine Owe.o ?_ | refine Owe.mk ?_ ?_) | (refine Fork.same ?_; (first | refine fkY ?_ | refine fkF ?_ | ((first | refine fkD ?_ ?_ | refine fkN ?_ ?_ | refine fkM ?_ ?_) <;> intro h))) | ((first | refine OpsL.same ?_ | refine OpsDL.same ?_); first | refine oK c3 rfl rfl rfl ?_ | refine oK c4 rfl rfl rfl ?_) | refine MvQ.stay ?_)
                      refine again (b + 1, some (subL s.tk.length b)) [0] ⟨hbl, hnx.symm⟩ (by show N - (b + 1) < N - b; omega) ?_
                      (refine qis ?_ ?_ <;> (repeat' first | exact rfl | (refine qS ?_; constructor)))
                    · rw [hg] at c4 hnx
                      rw [if_neg (by simp)] at hnx
                      (repeat' first | (refine Owe.same ?_; first | refine Owe.o ?_ | refine Owe.mk ?_ ?_) | (refine Fork.same ?_; (first | refine fkY ?_ | refine fkF ?_ | ((first | refine fkD ?_ ?_ | refine fkN ?_ ?_ | refine fkM ?_ ?_) <;> intro h))) | ((first | refine OpsL.same ?_ | refine OpsDL.same ?_); first | refine oK c3 rfl rfl rfl ?_ | refine oK c4 rfl rfl rfl ?_) | refine MvQ.stay ?_)
                      refine again (b + 1, some m) [0] ⟨hbl, hnx.symm⟩ (by show N - (b + 1) < N - b; omega) ?_
                      (refine qis ?_ ?_ <;> (repeat' first | exact rfl | (refine qS ?_; constructor)))
                  · rw [hd] at c3
                    rw [clB, hd, if_neg (by simp)] at hnx
                    (repeat' first | (refine Owe.same ?_; first | refine Owe.o ?_ | refine Owe.mk ?_ ?_) | (refine Fork.same ?_; (first | refine fkY ?_ | refine fkF ?_ | ((first | refine fkD ?_ ?_ | refine fkN ?_ ?_ | refine fkM ?_ ?_) <;> intro h))) | ((first | refine OpsL.same ?_ | refine OpsDL.same ?_); first | refine oK c3 rfl rfl rfl ?_) | refine MvQ.stay ?_)
                    refine again (b + 1, some m) [0] ⟨hbl, hnx.symm⟩ (by show N - (b + 1) < N - b; omega) ?_
                    (refine qis ?_ ?_ <;> (repeat' first | exact rfl | (refine qS ?_; constructor)))
                · have hs1 : smO (some m) (subL s.tk.length b) = false := decide_eq_false h
                  rw [hs1, if_neg (by simp)] at hnx
                  refine again (b + 1, some m) [0] ⟨hbl, hnx.symm⟩ (by show N - (b + 1) < N - b; omega) ?_
                  (refine qis ?_ ?_ <;> (repeat' first | exact rfl | (refine qS ?_; constructor)))
  · rw [if_neg h0] at hq
    generalize onE s t = e at *
    subst hq
    refine pi2 fn15 ?_
    (repeat' first | (refine Owe.same ?_; first | refine Owe.o ?_ | refine Owe.mk ?_ ?_) | (refine Fork.same ?_; (first | refine fkY ?_ | refine fkF ?_ | ((first | refine fkD ?_ ?_ | refine fkN ?_ ?_ | refine fkM ?_ ?_) <;> intro h))) | ((first | refine OpsL.same ?_ | refine OpsDL.same ?_); first | refine oK c1 rfl rfl rfl ?_) | refine MvQ.stay ?_)
    (refine rqK rfl ?_; (repeat' first | exact rfl | (refine qS ?_; constructor)))
end Go.Pw

set_option linter.unusedSimpArgs false
set_option linter.unusedVariables false
set_option maxHeartbeats 4000000
namespace Go.Pw
set_option maxRecDepth 2000
open Go Go.Proofs A1 A2 A3 A4
abbrev exSi : Si := ⟨[⟨⟨#[118, 97, 108, 118, 101]⟩, 1, 20, 30, 4, 50, 0, 300, []⟩, ⟨⟨#[112, 114, 111, 98, 101]⟩, 2, 10, 10, 1, 30, 80, 90, []⟩, ⟨⟨#[99, 108, 111, 115, 101]⟩, 1, 10, 20, 2, 40, 0, 400, [0]⟩], [[0, 10, 20], [10, 0, 10], [20, 10, 0]], [30, 40, 50], [(100, 199, 5)], 1, 2, 20, 400⟩
abbrev exSt : St8 := ⟨0, 0, 300, 6, []⟩
abbrev exSt1 : St8 := ⟨1, 30, 250, 2, [0]⟩
theorem PFD.res {P : Program} {f : FuncId} {args : List V} {v v' : V} (h : PFD P f args v) (hr : RI v v') : PFD P f args v' :=
  ⟨h.h.1, h.h.2.1, fun Γ w us h1 h2 h3 => (h.h.2.2 Γ w us h1 h2 h3).mono fun e w' ⟨u, Γ', q1, q2, q3⟩ => ⟨u, Γ', q1, hr _ _ _ q2, q3⟩⟩
theorem DI.nil (s : Nat) (f : Nat → List D) : DI (.v (.slice none 0 0)) (.sl s 0 f) := fun I w u h => by
  cases h; exact .slE _ _ _ _
/-- A slice that was written out. -/
abbrev litD (s : Nat) (l : List (List D)) : D := .sl s l.length fun i => l.getD i []
theorem DI.lit {s : Nat} {l : List (List D)} {g : Nat → List D} (h : ∀ i, i < l.length → DIs (l.getD i []) (g i)) : DI (litD s l) (.sl s l.length g) := DI.sl h
abbrev exRaw : List D := [litD 9 [[.v (.string ⟨#[118, 97, 108, 118, 101]⟩), dI 1, dI 20, dI 30, dI 4, dI 50, dI 0, dI 300, .v (.slice none 0 0)], [.v (.string ⟨#[112, 114, 111, 98, 101]⟩), dI 2, dI 10, dI 10, dI 1, dI 30, dI 80, dI 90, .v (.slice none 0 0)], [.v (.string ⟨#[99, 108, 111, 115, 101]⟩), dI 1, dI 10, dI 20, dI 2, dI 40, dI 0, dI 400, litD 1 [[dI 0]]]],
  litD 1 [[litD 1 [[dI 0], [dI 10], [dI 20]]], [litD 1 [[dI 10], [dI 0], [dI 10]]], [litD 1 [[dI 20], [dI 10], [dI 0]]]], litD 1 [[dI 30], [dI 40], [dI 50]], litD 3 [[dI 100, dI 199, dI 5]], dI 1, dI 2, dI 20, dI 400]
theorem DIs.of {ds es : List D} (h : ds = es) : DIs ds es := h ▸ DIs.refl ds
theorem ex3I {a b c : Int} : DI (litD 1 [[dI a], [dI b], [dI c]]) (intsD [a, b, c]) := DI.sl fun i hi => by
  match i, hi with
  | 0, _ => exact DIs.refl _
  | 1, _ => exact DIs.refl _
  | 2, _ => exact DIs.refl _
theorem C48 : PFD Tryz.prog 48 [] (siv exSi) := by
  refine PFD.res (v := .agg [.d (litD 9 [[.v (.string ⟨#[118, 97, 108, 118, 101]⟩), dI 1, dI 20, dI 30, dI 4, dI 50, dI 0, dI 300, .v (.slice none 0 0)], [.v (.string ⟨#[112, 114, 111, 98, 101]⟩), dI 2, dI 10, dI 10, dI 1, dI 30, dI 80, dI 90, .v (.slice none 0 0)], [.v (.string ⟨#[99, 108, 111, 115, 101]⟩), dI 1, dI 10, dI 20, dI 2, dI 40, dI 0, dI 400, litD 1 [[dI 0]]]]), .d (litD 1 [[litD 1 [[dI 0], [dI 10], [dI 20]]], [litD 1 [[dI 10], [dI 0], [dI 10]]], [litD 1 [[dI 20], [dI 10], [dI 0]]]]), .d (litD 1 [[dI 30], [dI 40], [dI 50]]), .d (litD 3 [[dI 100, dI 199, dI 5]]), .d (dI 1), .d (dI 2), .d (dI 20), .d (dI 400)]) ?_ (RI.aggI (ds := exRaw) (es := siD exSi) ?_)
  · refine pi1 fn48 ?_
    (repeat' first | (refine Owe.same ?_; first | refine Owe.o ?_ | refine Owe.mk ?_ ?_) | (refine Fork.same ?_; (first | refine fkD ?_ ?_ | refine fkN ?_ ?_ | refine fkM ?_ ?_) <;> intro h) | refine MvQ.stay ?_)
    (refine rqK rfl ?_; (repeat' first | exact rfl | (refine qS ?_; constructor)))
  · refine .cons (DI.sl fun i hi => ?_) (.cons (DI.sl fun i hi => ?_) (.cons ex3I (.cons (DI.sl fun i hi => ?_) (DIs.refl _))))
    · match i, hi with
      | 0, _ => exact .cons (DI.refl _) (.cons (DI.refl _) (.cons (DI.refl _) (.cons (DI.refl _) (.cons (DI.refl _) (.cons (DI.refl _) (.cons (DI.refl _) (.cons (DI.refl _) (.cons (DI.nil _ _) .nil))))))))
      | 1, _ => exact .cons (DI.refl _) (.cons (DI.refl _) (.cons (DI.refl _) (.cons (DI.refl _) (.cons (DI.refl _) (.cons (DI.refl _) (.cons (DI.refl _) (.cons (DI.refl _) (.cons (DI.nil _ _) .nil))))))))
      | 2, _ => exact .cons (DI.refl _) (.cons (DI.refl _) (.cons (DI.refl _) (.cons (DI.refl _) (.cons (DI.refl _) (.cons (DI.refl _) (.cons (DI.refl _) (.cons (DI.refl _) (.cons (DI.sl fun i hi => by
          match i, hi with
          | 0, _ => exact DIs.refl _) .nil))))))))
    · match i, hi with
      | 0, _ => exact .cons ex3I .nil
      | 1, _ => exact .cons ex3I .nil
      | 2, _ => exact .cons ex3I .nil
    · match i, hi with
      | 0, _ => exact DIs.refl _
/-- The same fold, to be calculated. -/
def grS (s : Si) : Nat → St8 → List Int → List Int × Int → List Int × Int
  | 0, _, p, b => updP s p b
  | f + 1, t, p, b => (List.range s.tk.length).foldl (fun b (k : Nat) => if spE s t (k : Int) = 0 then grS s f (spS s t (k : Int)) (p ++ [(k : Int)]) b else b) (updP s p b)
theorem grS_eq {s : Si} : ∀ (f : Nat) (t : St8) (p : List Int) (b : List Int × Int), grwF s f t p b = grS s f t p b
  | 0, t, p, b => by rw [grwF, grS]
  | f + 1, t, p, b => by
    have key : ∀ k, grwK s f t p (updP s p b) k = (List.range k).foldl (fun b (k : Nat) => if spE s t (k : Int) = 0 then grS s f (spS s t (k : Int)) (p ++ [(k : Int)]) b else b) (updP s p b) := fun k => by
      induction k with
      | zero => rw [grwK]; rfl
      | succ k ih =>
        rw [grwK, List.range_succ, List.foldl_append, ← ih, grS_eq f]
        rfl
    rw [grwF, grS, key]
theorem C49 : PFD Tryz.prog 49 [] (stv exSt) := by
  refine pi1 fn49 ?_
  (repeat' first | (refine Owe.same ?_; first | refine Owe.o ?_ | refine Owe.mk ?_ ?_) | (refine Fork.same ?_; (first | refine fkD ?_ ?_ | refine fkN ?_ ?_ | refine fkM ?_ ?_) <;> intro h) | refine MvQ.stay ?_)
  (refine rqK rfl ?_; (repeat' first | exact rfl | (refine qS ?_; constructor)))
theorem exSm : SiSm exSi := ⟨by decide, by decide, by decide, by decide, by decide, by decide⟩
theorem ex1 : sbE exSi exSt 0 = 0 := by decide +kernel
theorem ex2 : sameB (spS exSi exSt 0) exSt1 = true := by decide +kernel
theorem ex3 : lrE exSi exSt1 = (170, 0) := by decide +kernel
theorem ex4 : orE exSi exSt = 0 := by decide +kernel
theorem ex5 : bestP exSi exSt = ([0, 2], 90) := by
  rw [bestP, grS_eq]; decide +kernel
theorem ex6 : clE exSi exSt = ([0, 1, 2], 0) := by decide +kernel
theorem C8 : PFD Tryz.prog 8 [] (vbl true) := by
  have c1 := C30 (s := exSi) (t := exSt) (n := 0) ⟨exSm, by decide⟩
  rw [ex1, if_pos rfl] at c1
  have c2 := C50 (s := exSi) (t := exSt1) ⟨exSm, by decide⟩
  rw [ex3] at c2
  have c3 := C22 (s := exSi) (t := exSt) ⟨exSm, by decide⟩
  rw [ex4, if_pos rfl, if_pos rfl, ex5] at c3
  have c4 := C15 (s := exSi) (t := exSt) ⟨exSm, by decide⟩
  rw [ex6] at c4
  have hl : (spS exSi exSt 0).d.length < 4611686018427387904 := by decide +kernel
  have c5 := C35 (a := spS exSi exSt 0) (b := exSt1) hl
  rw [ex2] at c5
  have c6 := C18 (l := [0, 2]) (m := [0, 2]) (by decide)
  have c7 := C18 (l := [0, 1, 2]) (m := [0, 1, 2]) (by decide)
  rw [decide_eq_true rfl] at c6 c7
  generalize spS exSi exSt 0 = X at *
  refine pi1 fn8 ?_
  (repeat' first | (refine Owe.same ?_; first | refine Owe.o ?_ | refine Owe.mk ?_ ?_) | (refine Fork.same ?_; (first | refine fkY ?_ | refine fkF ?_ | ((first | refine fkD ?_ ?_ | refine fkN ?_ ?_ | refine fkM ?_ ?_) <;> intro h))) | ((first | refine OpsL.same ?_ | refine OpsDL.same ?_); first | refine pK C48 rfl rfl ?_ | refine pK C49 rfl rfl ?_ | refine pK c1 rfl rfl ?_ | refine pK c2 rfl rfl ?_ | refine pK c3 rfl rfl ?_ | refine pK c4 rfl rfl ?_ | refine pK c5 rfl rfl ?_) | refine MvQ.stay ?_)
  ((first | refine OpsL.same ?_ | refine OpsDL.same ?_); first | refine pK c6 rfl rfl ?_)
  (repeat' first | (refine Owe.same ?_; first | refine Owe.o ?_ | refine Owe.mk ?_ ?_) | (refine Fork.same ?_; (first | refine fkY ?_ | refine fkF ?_ | ((first | refine fkD ?_ ?_ | refine fkN ?_ ?_ | refine fkM ?_ ?_) <;> intro h))) | ((first | refine OpsL.same ?_ | refine OpsDL.same ?_); first | refine oK C48 rfl rfl rfl ?_) | refine MvQ.stay ?_)
  ((first | refine OpsL.same ?_ | refine OpsDL.same ?_); first | refine pK c7 rfl rfl ?_)
  (repeat' first | (refine Owe.same ?_; first | refine Owe.o ?_ | refine Owe.mk ?_ ?_) | (refine Fork.same ?_; (first | refine fkY ?_ | refine fkF ?_ | ((first | refine fkD ?_ ?_ | refine fkN ?_ ?_ | refine fkM ?_ ?_) <;> intro h))) | ((first | refine OpsL.same ?_ | refine OpsDL.same ?_); first | refine oK C48 rfl rfl rfl ?_) | refine MvQ.stay ?_)
  (refine rqK rfl ?_; (repeat' first | exact rfl | (refine qS ?_; constructor)))
end Go.Pw

set_option linter.unusedVariables false
set_option maxHeartbeats 2000000
set_option maxRecDepth 100000
namespace Go.Pw
open Go Go.Proofs
end Go.Pw

set_option linter.unusedSimpArgs false
set_option linter.unusedVariables false
set_option maxHeartbeats 4000000
namespace Go.Pw
set_option maxRecDepth 2000
open Go Go.Proofs A1 A2 A3 A4
end Go.Pw

set_option linter.unusedSimpArgs false
set_option linter.unusedVariables false
set_option maxHeartbeats 4000000
namespace Go.Pw
set_option maxRecDepth 2000
open Go Go.Proofs A1 A2 A3 A4
theorem C82 {s : Si} {n a : Int} : (s.ti.length ≤ 1000000 ∧ (∀ k, k < s.ti.length → isN (s.ti.getD k (0, 0, 0)).2.2) ∧ -1000000000 ≤ n ∧ n ≤ 1000000000) → PFD Tryz.prog 82 [siv s, vi .i64 n, vi .i64 a] (vi .i64 (swF s.ti n a)) := fun ⟨hl, hs, hn⟩ => by
  obtain ⟨q, hq⟩ : ∃ q, q = swF s.ti n a := ⟨_, rfl⟩
  rw [← hq]
  rw [swF] at hq
  refine pi1 fn82 ?_
  (repeat' first | (refine Owe.same ?_; first | refine Owe.o ?_ | refine Owe.mk ?_ ?_) | (refine Fork.same ?_; (first | refine fkD ?_ ?_ | refine fkN ?_ ?_ | refine fkM ?_ ?_) <;> intro h) | refine MvQ.stay ?_)
  · rw [if_pos h] at hq; subst hq; (refine rqK rfl ?_; (repeat' first | exact rfl | (refine qS ?_; constructor)))
  · rw [if_neg h] at hq
    refine Sat.lp0 (fun k : Nat => [(7, vi .i64 k), (3, .c (.rp (siD s))), (1, vi .i64 n), (2, vi .i64 a)]) (fun k => k ≤ s.ti.length ∧ q = swL n a (s.ti.drop k)) (fun k => s.ti.length - k) 0 ⟨Nat.zero_le _, hq⟩ (by ((first | refine qen ?_ | refine qvs ?_ | refine qeq ?_ | refine qst ?_ | refine qv ?_ | refine qc ?_ | refine qe ?_ | refine qcs ?_ | skip); (repeat' first | exact rfl | (refine qS ?_; constructor)))) ?_
    intro k hk
    refine Fork.dec (fun hlt => ?_) (fun hlt => ?_)
    · have hlt : k < s.ti.length := by omega
      have h1 : isN (s.ti.getD k (0, 0, 0)).2.2 := hs k hlt
      have e := swL_drop n a s.ti k hlt
      rw [← hk.2] at e
      (repeat' first | (refine Owe.same ?_; first | refine Owe.o ?_ | refine Owe.mk ?_ ?_) | (refine Fork.same ?_; (first | refine fkD ?_ ?_ | refine fkN ?_ ?_ | refine fkM ?_ ?_) <;> intro h) | ((first | refine OpsL.same ?_ | refine OpsDL.same ?_); first | refine pK C75 rfl rfl ?_) | refine MvQ.stay ?_)
      · have h : (s.ti.getD k (0, 0, 0)).1 ≤ a ∧ a ≤ (s.ti.getD k (0, 0, 0)).2.1 := h
        rw [if_pos h] at e; subst e
        (refine rqK rfl ?_; (repeat' first | exact rfl | (refine qS ?_; constructor)))
      · have h : ¬ ((s.ti.getD k (0, 0, 0)).1 ≤ a ∧ a ≤ (s.ti.getD k (0, 0, 0)).2.1) := h
        rw [if_neg h] at e
        exact again0 (k + 1) ⟨hlt, e⟩ (by omega) (by ((first | refine qen ?_ | refine qvs ?_ | refine qeq ?_ | refine qst ?_ | refine qv ?_ | refine qc ?_ | refine qe ?_ | refine qcs ?_ | skip); (repeat' first | exact rfl | (refine qS ?_; constructor))))
    · have e := hk.2
      rw [List.drop_of_length_le (by omega)] at e
      (repeat' first | (refine Owe.same ?_; first | refine Owe.o ?_ | refine Owe.mk ?_ ?_) | (refine Fork.same ?_; (first | refine fkD ?_ ?_ | refine fkN ?_ ?_ | refine fkM ?_ ?_) <;> intro h) | refine MvQ.stay ?_)
      subst e
      (refine rqK rfl ?_; (repeat' first | exact rfl | (refine qS ?_; constructor)))
theorem C76 {s : Si} {t : St8} : DvB s t → PFD Tryz.prog 76 [siv s, stv t] (.agg [int (hmT s t), int (hmT s t * s.swim)]) := fun h => by
  have hb := hmT_bd h
  have h1 := h.pl
  have h2 := h.ok.m
  have h3 := (h.ok.r t.p.toNat (by omega)).1.1
  have h4 := h.ok.e
  have c1 := C82 (s := s) (n := s.ho.getD t.p.toNat 0) (a := t.t) ⟨by omega, fun k hk => (h.ok.u k hk).1.2, by omega⟩
  obtain ⟨n, hn⟩ : ∃ n, n = hmT s t := ⟨_, rfl⟩
  rw [← hn] at hb ⊢
  change PFD Tryz.prog 82 _ (vi .i64 (hmT s t)) at c1
  rw [← hn] at c1
  have hm := mbd (a := n) (A := 20000) (by omega) (b := s.swim) (B := 10000) (by omega)
  refine pi1 fn76 ?_
  (repeat' first | (refine Owe.same ?_; first | refine Owe.o ?_ | refine Owe.mk ?_ ?_) | (refine Fork.same ?_; (first | refine fkD ?_ ?_ | refine fkN ?_ ?_ | refine fkM ?_ ?_) <;> intro h) | ((first | refine OpsL.same ?_ | refine OpsDL.same ?_); first | refine pK c1 rfl rfl ?_) | refine MvQ.stay ?_)
  (refine rqK rfl ?_; (repeat' first | exact rfl | (refine qS ?_; constructor)))
theorem C28 {s : Si} {t : St8} : DvB s t → PFD Tryz.prog 28 [siv s, stv t] (vbl (reB s t)) := fun h => by
  have hb := hmT_bd h
  have h1 := h.tm
  have h2 := h.en
  have h4 := h.ok.e
  have hm := mbd (a := hmT s t) (A := 20000) (by omega) (b := s.swim) (B := 10000) (by omega)
  have c1 := C76 h
  refine pi1 fn28 ?_
  (repeat' first | (refine Owe.same ?_; first | refine Owe.o ?_ | refine Owe.mk ?_ ?_) | (refine Fork.same ?_; (first | refine fkD ?_ ?_ | refine fkN ?_ ?_ | refine fkM ?_ ?_) <;> intro h) | ((first | refine OpsL.same ?_ | refine OpsDL.same ?_); first | refine pK c1 rfl rfl ?_) | refine MvQ.stay ?_)
  · (refine rqK rfl ?_; (repeat' first | exact rfl | (refine qS ?_; constructor)))
    rw [reB]; exact decide_eq_decide.2 ⟨fun hh => ⟨h, hh⟩, fun hh => hh.2⟩
  · (refine rqK rfl ?_; (repeat' first | exact rfl | (refine qS ?_; constructor)))
    have hf : reB s t = false := decide_eq_false fun hh => h hh.1
    exact hf
end Go.Pw

set_option linter.unusedSimpArgs false
set_option linter.unusedVariables false
set_option maxHeartbeats 4000000
namespace Go.Pw
set_option maxRecDepth 2000
open Go Go.Proofs A1 A2 A3 A4
end Go.Pw

set_option linter.unusedSimpArgs false
set_option linter.unusedVariables false
set_option maxHeartbeats 4000000
namespace Go.Pw
set_option maxRecDepth 2000
open Go Go.Proofs A1 A2 A3 A4
theorem OnOk.on {s : Si} {t : St8} (h : OnOk s t) (h0 : (siE s).2 = 0) : onE s t = 0 := by
  rw [onE_eq h0, rsE, if_pos (by have := h.pl; omega), if_pos ⟨⟨h.tm, h.en⟩, h.oil⟩]
  exact h.d
end Go.Pw

set_option linter.unusedSimpArgs false
set_option linter.unusedVariables false
set_option maxHeartbeats 4000000
namespace Go.Pw
set_option maxRecDepth 2000
open Go Go.Proofs A1 A2 A3 A4
end Go.Pw

set_option linter.unusedSimpArgs false
set_option linter.unusedVariables false
set_option maxHeartbeats 4000000
namespace Go.Pw
set_option maxRecDepth 2000
open Go Go.Proofs A1 A2 A3 A4
end Go.Pw

set_option linter.unusedVariables false
set_option maxHeartbeats 2000000
set_option maxRecDepth 100000
namespace Go.Pw
open Go Go.Proofs
end Go.Pw

set_option linter.unusedSimpArgs false
set_option linter.unusedVariables false
set_option maxHeartbeats 4000000
namespace Go.Pw
set_option maxRecDepth 2000
open Go Go.Proofs A1 A2 A3 A4
end Go.Pw

set_option linter.unusedSimpArgs false
set_option linter.unusedVariables false
set_option maxHeartbeats 4000000
namespace Go.Pw
set_option maxRecDepth 2000
open Go Go.Proofs A1 A2 A3 A4
theorem C118 {a : Int} : Md a → PFD Tryz.prog 118 [vi .i64 a] (vi .i64 (max a (-a))) := fun ha => by
  refine pi1 fn118 ?_
  (repeat' first | (refine Owe.same ?_; first | refine Owe.o ?_ | refine Owe.mk ?_ ?_) | (refine Fork.same ?_; (first | refine fkD ?_ ?_ | refine fkN ?_ ?_ | refine fkM ?_ ?_) <;> intro h) | refine MvQ.stay ?_)
  (refine rqK rfl ?_; (repeat' first | exact rfl | (refine qS ?_; constructor)))
theorem C83 {a b : Int} : (Md a ∧ Md b) → PFD Tryz.prog 83 [vi .i64 a, vi .i64 b] (vi .i64 (gcdI a b)) := fun hab => by
  refine pi1 fn83 ?_
  (repeat' first | (refine Owe.same ?_; first | refine Owe.o ?_ | refine Owe.mk ?_ ?_) | (refine Fork.same ?_; (first | refine fkD ?_ ?_ | refine fkN ?_ ?_ | refine fkM ?_ ?_) <;> intro h) | refine MvQ.stay ?_)
  refine Sat.lp0 (fun p : Int × Int => [(0, vi .i64 p.1), (1, vi .i64 p.2)]) (fun p => (Md p.1 ∧ Md p.2) ∧ Int.gcd p.1 p.2 = Int.gcd a b) (fun p => p.2.natAbs) (a, b) ⟨hab, rfl⟩ (by ((first | refine qen ?_ | refine qvs ?_ | refine qeq ?_ | refine qst ?_ | refine qv ?_ | refine qc ?_ | refine qe ?_ | refine qcs ?_ | skip); (repeat' first | exact rfl | (refine qS ?_; constructor)))) ?_
  rintro ⟨x, y⟩ ⟨hm, hg⟩
  (repeat' first | (refine Owe.same ?_; first | refine Owe.o ?_ | refine Owe.mk ?_ ?_) | (refine Fork.same ?_; (first | refine fkD ?_ ?_ | refine fkN ?_ ?_ | refine fkM ?_ ?_) <;> intro h) | refine MvQ.stay ?_)
  · have h1 := tmod_abs (a := x) h
    refine again0 (y, x.tmod y) ⟨⟨hm.2, by have := hm.2; simp only [Md] at *; omega⟩, by rw [gcd_step]; exact hg⟩ h1 (by ((first | refine qen ?_ | refine qvs ?_ | refine qeq ?_ | refine qst ?_ | refine qv ?_ | refine qc ?_ | refine qe ?_ | refine qcs ?_ | skip); (repeat' first | exact rfl | (refine qS ?_; constructor))))
  · (refine rqK rfl ?_; (repeat' first | exact rfl | (refine qS ?_; constructor)))
    have h : y = 0 := h
    subst h
    exact (gcd_zero x).symm.trans (by simp only [gcdI]; rw [← hg])
theorem C91 {a b : Int} : (Md a ∧ Md b) → PFD Tryz.prog 91 [vi .i64 a, vi .i64 b] (vi .i64 (gcdI a b)) := fun hab => by
  refine pi1 fn91 ?_
  (repeat' first | (refine Owe.same ?_; first | refine Owe.o ?_ | refine Owe.mk ?_ ?_) | (refine Fork.same ?_; (first | refine fkD ?_ ?_ | refine fkN ?_ ?_ | refine fkM ?_ ?_) <;> intro h) | refine MvQ.stay ?_)
  refine Sat.lp0 (fun p : Int × Int => [(0, vi .i64 p.1), (1, vi .i64 p.2)]) (fun p => (Md p.1 ∧ Md p.2) ∧ Int.gcd p.1 p.2 = Int.gcd a b) (fun p => p.2.natAbs) (a, b) ⟨hab, rfl⟩ (by ((first | refine qen ?_ | refine qvs ?_ | refine qeq ?_ | refine qst ?_ | refine qv ?_ | refine qc ?_ | refine qe ?_ | refine qcs ?_ | skip); (repeat' first | exact rfl | (refine qS ?_; constructor)))) ?_
  rintro ⟨x, y⟩ ⟨hm, hg⟩
  (repeat' first | (refine Owe.same ?_; first | refine Owe.o ?_ | refine Owe.mk ?_ ?_) | (refine Fork.same ?_; (first | refine fkD ?_ ?_ | refine fkN ?_ ?_ | refine fkM ?_ ?_) <;> intro h) | ((first | refine OpsL.same ?_ | refine OpsDL.same ?_); first | refine pK C118 rfl rfl ?_) | refine MvQ.stay ?_)
  · have h1 := tmod_abs (a := x) h
    refine again0 (y, x.tmod y) ⟨⟨hm.2, by have := hm.2; simp only [Md] at *; omega⟩, by rw [gcd_step]; exact hg⟩ h1 (by ((first | refine qen ?_ | refine qvs ?_ | refine qeq ?_ | refine qst ?_ | refine qv ?_ | refine qc ?_ | refine qe ?_ | refine qcs ?_ | skip); (repeat' first | exact rfl | (refine qS ?_; constructor))))
  · (refine rqK rfl ?_; (repeat' first | exact rfl | (refine qS ?_; constructor)))
    have h : y = 0 := h
    subst h
    exact (gcd_zero x).symm.trans (by simp only [gcdI]; rw [← hg])
theorem C86 {n d : Int} : (Md n ∧ Md d ∧ 0 < d) → PFD Tryz.prog 86 [vi .i64 n, vi .i64 d] (.agg [int (frac n d).1, int (frac n d).2]) := fun ⟨hn, hd, h0⟩ => by
  have h1 := gcd_pos (n := n) h0
  have h2 := tdiv_bd (b := gcdI n d) hn
  have h3 := tdiv_bd (b := gcdI n d) hd
  refine pi1 fn86 ?_
  (repeat' first | (refine Owe.same ?_; first | refine Owe.o ?_ | refine Owe.mk ?_ ?_) | (refine Fork.same ?_; (first | refine fkD ?_ ?_ | refine fkN ?_ ?_ | refine fkM ?_ ?_) <;> intro h) | ((first | refine OpsL.same ?_ | refine OpsDL.same ?_); first | refine pK C83 rfl rfl ?_) | refine MvQ.stay ?_)
  (refine rqK rfl ?_; (repeat' first | exact rfl | (refine qS ?_; constructor)))
theorem C90 {n d : Int} : (Md n ∧ Md d ∧ 0 < d) → PFD Tryz.prog 90 [vi .i64 n, vi .i64 d] (.agg [int (frac n d).1, int (frac n d).2]) := fun ⟨hn, hd, h0⟩ => by
  have h1 := gcd_pos (n := n) h0
  have h2 := tdiv_bd (b := gcdI n d) hn
  have h3 := tdiv_bd (b := gcdI n d) hd
  refine pi1 fn90 ?_
  (repeat' first | (refine Owe.same ?_; first | refine Owe.o ?_ | refine Owe.mk ?_ ?_) | (refine Fork.same ?_; (first | refine fkD ?_ ?_ | refine fkN ?_ ?_ | refine fkM ?_ ?_) <;> intro h) | ((first | refine OpsL.same ?_ | refine OpsDL.same ?_); first | refine pK C91 rfl rfl ?_) | refine MvQ.stay ?_)
  · exfalso; omega
  · (refine rqK rfl ?_; (repeat' first | exact rfl | (refine qS ?_; constructor)))
abbrev cmpF (a b : Int × Int) : Int := cmpI (a.1 * b.2) (b.1 * a.2)
abbrev frv (p : Int × Int) : V := .agg [int p.1, int p.2]
/-- A fraction whose parts are small. -/
abbrev frSm (p : Int × Int) : Prop := (-2000000000000 ≤ p.1 ∧ p.1 ≤ 2000000000000) ∧ 0 < p.2 ∧ p.2 ≤ 10000
theorem frSm_mul {a b : Int × Int} (ha : frSm a) (hb : frSm b) : -20000000000000000 ≤ a.1 * b.2 ∧ a.1 * b.2 ≤ 20000000000000000 := by
  have := mbd (a := a.1) (A := 2000000000000) (by omega) (b := b.2) (B := 10000) (by omega)
  omega
theorem C89 {a b : Int × Int} : (frSm a ∧ frSm b) → PFD Tryz.prog 89 [frv a, frv b] (vi .i64 (cmpF a b)) := fun ⟨ha, hb⟩ => by
  have h1 := frSm_mul ha hb
  have h2 := frSm_mul hb ha
  refine pi1 fn89 ?_
  (repeat' first | (refine Owe.same ?_; first | refine Owe.o ?_ | refine Owe.mk ?_ ?_) | (refine Fork.same ?_; (first | refine fkD ?_ ?_ | refine fkN ?_ ?_ | refine fkM ?_ ?_) <;> intro h) | ((first | refine OpsL.same ?_ | refine OpsDL.same ?_); first | refine pK C61 rfl rfl ?_) | refine MvQ.stay ?_)
  (refine rqK rfl ?_; (repeat' first | exact rfl | (refine qS ?_; constructor)))
theorem C45 {a b : Int × Int} : (frSm a ∧ frSm b) → PFD Tryz.prog 45 [frv a, frv b] (vi .i64 (cmpF a b)) := fun ⟨ha, hb⟩ => by
  have h1 := frSm_mul ha hb
  have h2 := frSm_mul hb ha
  obtain ⟨q, hq⟩ : ∃ q, q = cmpF a b := ⟨_, rfl⟩
  rw [← hq]
  refine pi1 fn45 ?_
  (repeat' first | (refine Owe.same ?_; first | refine Owe.o ?_ | refine Owe.mk ?_ ?_) | (refine Fork.same ?_; (first | refine fkD ?_ ?_ | refine fkN ?_ ?_ | refine fkM ?_ ?_) <;> intro h) | refine MvQ.stay ?_)
  · have : q = -1 := by rw [hq, cmpF, cmpI, if_pos h]
    subst this
    (refine rqK rfl ?_; (repeat' first | exact rfl | (refine qS ?_; constructor)))
  · rename_i h1; (refine rqK rfl ?_; (repeat' first | exact rfl | (refine qS ?_; constructor))); rw [hq, cmpF, cmpI, if_neg h1, if_pos h]
  · rename_i h1; (refine rqK rfl ?_; (repeat' first | exact rfl | (refine qS ?_; constructor))); rw [hq, cmpF, cmpI, if_neg h1, if_neg h]
/-- A price that is accepted in size. -/
abbrev prOk (p : Int × Int) : Prop := (0 ≤ p.1 ∧ p.1 ≤ 10000) ∧ 0 < p.2 ∧ p.2 ≤ 10000
def bdP (s : Si) (t : St8) (p : Int × Int) : Nat → Int
  | 0 => p.1 * (t.w - s.res)
  | k + 1 => if (k : Int) ∈ t.d then bdP s t p k else bdP s t p k + max 0 ((tkA s k).v * p.2 - p.1 * (tkA s k).w)
abbrev bdF (s : Si) (t : St8) (p : Int × Int) : Int × Int := frac (bdP s t p s.tk.length) p.2
theorem bdP_bd {s : Si} {t : St8} {p : Int × Int} (h : OnOk s t) (hp : prOk p) : ∀ k, k ≤ s.tk.length → -1100000000000 ≤ bdP s t p k ∧ bdP s t p k ≤ 1100000000000 + 200000000 * k
  | 0, _ => by
    have h2 := h.en
    have h3 := h.ok.e
    have := mbd (a := p.1) (A := 10000) (by omega) (b := t.w - s.res) (B := 100010000) (by omega)
    rw [bdP]; omega
  | k + 1, hk => by
    have ih := bdP_bd h hp k (by omega)
    have ht := h.ok.t k (by omega)
    have hv := ht.v
    have hw := ht.w
    have e : tkA s (k : Int) = s.tk.getD k tk0 := by simp only [tkA, Int.toNat_natCast]
    have h1 := mbd (a := (tkA s (k : Int)).v) (A := 10000) (by rw [e]; omega) (b := p.2) (B := 10000) (by omega)
    have h2 := mbd (a := p.1) (A := 10000) (by omega) (b := (tkA s (k : Int)).w) (B := 10000) (by rw [e]; omega)
    rw [bdP]
    split <;> omega
end Go.Pw

set_option linter.unusedSimpArgs false
set_option linter.unusedVariables false
set_option maxHeartbeats 4000000
namespace Go.Pw
set_option maxRecDepth 2000
open Go Go.Proofs A1 A2 A3 A4
theorem C85 {s : Si} {t : St8} {p : Int × Int} : (OnOk s t ∧ prOk p) → PFD Tryz.prog 85 [div s t, frv p] (frv (bdF s t p)) := fun ⟨h, hp⟩ => by
  have n6 := h.ok.n
  have ld := h.dl
  have h2 := h.en
  have h3 := h.ok.e
  have b0 := mbd (a := p.1) (A := 10000) (by omega) (b := t.w - s.res) (B := 100010000) (by omega)
  have c1 := fun n => C57 (s := s) (t := t) (n := n) (by omega)
  obtain ⟨q, hq⟩ : ∃ q, q = bdF s t p := ⟨_, rfl⟩
  rw [← hq]
  refine pi1 fn85 ?_
  (repeat' first | (refine Owe.same ?_; first | refine Owe.o ?_ | refine Owe.mk ?_ ?_) | (refine Fork.same ?_; (first | refine fkD ?_ ?_ | refine fkN ?_ ?_ | refine fkM ?_ ?_) <;> intro h) | refine MvQ.stay ?_)
  refine Sat.lp (fun k : Nat => ⟨[(22, vi .i64 k), (21, vi .i64 s.tk.length), (20, .c (tks s.tk)), (5, vi .i64 (bdP s t p k)), (2, .c (.rp (diD s t))), (3, .c (.rp [dI p.1, dI p.2])), (4, .c (.bp 0 0))], [(0, .box [int 0, int 0])], 1⟩) (fun k => k ≤ s.tk.length) (fun k => s.tk.length - k) 0 [0] (Nat.zero_le _) (by (refine qis ?_ ?_ <;> (repeat' first | exact rfl | (refine qS ?_; constructor)))) ?_
  intro k hk
  have hb := bdP_bd h hp k hk
  refine Fork.dec (fun hlt => ?_) (fun hlt => ?_)
  · have hlt : k < s.tk.length := by omega
    have ht := h.ok.t k hlt
    have hv := ht.v
    have hw := ht.w
    have b1 := mbd (a := (s.tk.getD k tk0).v) (A := 10000) (by omega) (b := p.2) (B := 10000) (by omega)
    have b2 := mbd (a := (s.tk.getD k tk0).w) (A := 10000) (by omega) (b := p.1) (B := 10000) (by omega)
    have c2 := c1 (k : Int)
    by_cases hm : (k : Int) ∈ t.d
    · have e : bdP s t p (k + 1) = bdP s t p k := by rw [bdP, if_pos hm]
      rw [decide_eq_true hm] at c2
      (repeat' first | (refine Owe.same ?_; first | refine Owe.o ?_ | refine Owe.mk ?_ ?_) | (refine Fork.same ?_; (first | refine fkY ?_ | refine fkF ?_ | ((first | refine fkD ?_ ?_ | refine fkN ?_ ?_ | refine fkM ?_ ?_) <;> intro h))) | ((first | refine OpsL.same ?_ | refine OpsDL.same ?_); first | refine oK c2 rfl rfl rfl ?_) | refine MvQ.stay ?_)
      refine again (k + 1) [0] hlt (by omega) ?_
      rw [e]
      (refine qis ?_ ?_ <;> (repeat' first | exact rfl | (refine qS ?_; constructor)))
    · have e : bdP s t p (k + 1) = bdP s t p k + max 0 ((s.tk.getD k tk0).v * p.2 - (s.tk.getD k tk0).w * p.1) := by
        rw [bdP, if_neg hm, Int.mul_comm p.1]; simp only [tkA, Int.toNat_natCast]
      rw [decide_eq_false hm] at c2
      (repeat' first | (refine Owe.same ?_; first | refine Owe.o ?_ | refine Owe.mk ?_ ?_) | (refine Fork.same ?_; (first | refine fkY ?_ | refine fkF ?_ | ((first | refine fkD ?_ ?_ | refine fkN ?_ ?_ | refine fkM ?_ ?_) <;> intro h))) | ((first | refine OpsL.same ?_ | refine OpsDL.same ?_); first | refine oK c2 rfl rfl rfl ?_) | refine MvQ.stay ?_)
      refine again (k + 1) [0] hlt (by omega) ?_
      rw [e]
      (refine qis ?_ ?_ <;> (repeat' first | exact rfl | (refine qS ?_; constructor)))
  · obtain rfl : k = s.tk.length := by omega
    have c3 := C86 (n := bdP s t p s.tk.length) (d := p.2) ⟨by simp only [Md]; omega, by simp only [Md]; omega, by omega⟩
    change PFD Tryz.prog 86 _ (frv (bdF s t p)) at c3
    rw [← hq] at c3
    (repeat' first | (refine Owe.same ?_; first | refine Owe.o ?_ | refine Owe.mk ?_ ?_) | (refine Fork.same ?_; (first | refine fkY ?_ | refine fkF ?_ | ((first | refine fkD ?_ ?_ | refine fkN ?_ ?_ | refine fkM ?_ ?_) <;> intro h))) | ((first | refine OpsL.same ?_ | refine OpsDL.same ?_); first | refine oK c3 rfl rfl rfl ?_) | refine MvQ.stay ?_)
    (refine rqK rfl ?_; (repeat' first | exact rfl | (refine qS ?_; constructor)))
theorem C43 {s : Si} {t : St8} {p : Int × Int} : (OnOk s t ∧ prOk p) → PFD Tryz.prog 43 [siv s, stv t, frv p] (frv (bdF s t p)) := fun ⟨h, hp⟩ => by
  have n6 := h.ok.n
  have ld := h.dl
  have h2 := h.en
  have h3 := h.ok.e
  have b0 := mbd (a := p.1) (A := 10000) (by omega) (b := t.w - s.res) (B := 100010000) (by omega)
  have c1 := fun n => C20 (l := t.d) (n := n) (by omega)
  obtain ⟨q, hq⟩ : ∃ q, q = bdF s t p := ⟨_, rfl⟩
  rw [← hq]
  refine pi1 fn43 ?_
  (repeat' first | (refine Owe.same ?_; first | refine Owe.o ?_ | refine Owe.mk ?_ ?_) | (refine Fork.same ?_; (first | refine fkD ?_ ?_ | refine fkN ?_ ?_ | refine fkM ?_ ?_) <;> intro h) | refine MvQ.stay ?_)
  refine Sat.lp (fun k : Nat => ⟨[(8, vi .i64 k), (7, vi .i64 (bdP s t p k)), (3, .c (.rp (siD s))), (4, .c (.rp (stD t))), (5, .c (.rp [dI p.1, dI p.2])), (6, .c (.bp 0 0))], [(0, .box [int 0, int 0])], 1⟩) (fun k => k ≤ s.tk.length) (fun k => s.tk.length - k) 0 [0] (Nat.zero_le _) (by (refine qis ?_ ?_ <;> (repeat' first | exact rfl | (refine qS ?_; constructor)))) ?_
  intro k hk
  have hb := bdP_bd h hp k hk
  refine Fork.dec (fun hlt => ?_) (fun hlt => ?_)
  · have hlt : k < s.tk.length := by omega
    have ht := h.ok.t k hlt
    have hv := ht.v
    have hw := ht.w
    have b1 := mbd (a := (s.tk.getD k tk0).v) (A := 10000) (by omega) (b := p.2) (B := 10000) (by omega)
    have b2 := mbd (a := p.1) (A := 10000) (by omega) (b := (s.tk.getD k tk0).w) (B := 10000) (by omega)
    have c2 := c1 (k : Int)
    by_cases hm : (k : Int) ∈ t.d
    · have e : bdP s t p (k + 1) = bdP s t p k := by rw [bdP, if_pos hm]
      rw [decide_eq_true hm] at c2
      (repeat' first | (refine Owe.same ?_; first | refine Owe.o ?_ | refine Owe.mk ?_ ?_) | (refine Fork.same ?_; (first | refine fkY ?_ | refine fkF ?_ | ((first | refine fkD ?_ ?_ | refine fkN ?_ ?_ | refine fkM ?_ ?_) <;> intro h))) | ((first | refine OpsL.same ?_ | refine OpsDL.same ?_); first | refine oK c2 rfl rfl rfl ?_) | refine MvQ.stay ?_)
      refine again (k + 1) [0] hlt (by omega) ?_
      rw [e]
      (refine qis ?_ ?_ <;> (repeat' first | exact rfl | (refine qS ?_; constructor)))
    · have e : bdP s t p (k + 1) = bdP s t p k + max 0 ((s.tk.getD k tk0).v * p.2 - p.1 * (s.tk.getD k tk0).w) := by
        rw [bdP, if_neg hm]; simp only [tkA, Int.toNat_natCast]
      rw [decide_eq_false hm] at c2
      (repeat' first | (refine Owe.same ?_; first | refine Owe.o ?_ | refine Owe.mk ?_ ?_) | (refine Fork.same ?_; (first | refine fkY ?_ | refine fkF ?_ | ((first | refine fkD ?_ ?_ | refine fkN ?_ ?_ | refine fkM ?_ ?_) <;> intro h))) | ((first | refine OpsL.same ?_ | refine OpsDL.same ?_); first | refine oK c2 rfl rfl rfl ?_) | refine MvQ.stay ?_)
      refine again (k + 1) [0] hlt (by omega) ?_
      rw [e]
      (refine qis ?_ ?_ <;> (repeat' first | exact rfl | (refine qS ?_; constructor)))
  · obtain rfl : k = s.tk.length := by omega
    have c3 := C90 (n := bdP s t p s.tk.length) (d := p.2) ⟨by simp only [Md]; omega, by simp only [Md]; omega, by omega⟩
    change PFD Tryz.prog 90 _ (frv (bdF s t p)) at c3
    rw [← hq] at c3
    (repeat' first | (refine Owe.same ?_; first | refine Owe.o ?_ | refine Owe.mk ?_ ?_) | (refine Fork.same ?_; (first | refine fkY ?_ | refine fkF ?_ | ((first | refine fkD ?_ ?_ | refine fkN ?_ ?_ | refine fkM ?_ ?_) <;> intro h))) | ((first | refine OpsL.same ?_ | refine OpsDL.same ?_); first | refine oK c3 rfl rfl rfl ?_) | refine MvQ.stay ?_)
    (refine rqK rfl ?_; (repeat' first | exact rfl | (refine qS ?_; constructor)))
theorem tdiv_nn2 {a b M : Int} (h : 0 ≤ a ∧ a ≤ M) (hb : 0 < b) : 0 ≤ a.tdiv b ∧ a.tdiv b ≤ M := by
  have h1 := tdiv_bd (b := b) (a := a) (M := M) (by omega)
  refine ⟨Int.tdiv_nonneg h.1 (by omega), h1.2⟩
theorem frac_den {n d M : Int} (hd : 0 < d ∧ d ≤ M) : 0 < (frac n d).2 ∧ (frac n d).2 ≤ M := by
  have hg := gcd_pos (n := n) hd.1
  have h1 : 0 < d.tdiv (gcdI n d) := by
    rw [Int.tdiv_eq_ediv_of_nonneg (by omega)]
    exact Int.ediv_pos_of_pos_of_dvd hd.1 (by omega) (Int.gcd_dvd_right ..)
  exact ⟨h1, (tdiv_nn2 (b := gcdI n d) (a := d) (M := M) (by omega) (by omega)).2⟩
theorem bdF_sm {s : Si} {t : St8} {p : Int × Int} (h : OnOk s t) (hp : prOk p) : frSm (bdF s t p) := by
  have n6 := h.ok.n
  have hb := bdP_bd h hp s.tk.length (Nat.le_refl _)
  exact ⟨tdiv_bd (M := 2000000000000) (by omega), frac_den hp.2⟩
theorem prOk.sm {p : Int × Int} (h : prOk p) : frSm p := ⟨by omega, h.2⟩
theorem prOk.frac {n d : Int} (hn : isN n) (hd : isN d ∧ d ≠ 0) : prOk (frac n d) := by
  have hg := gcd_pos (n := n) (d := d) (by omega)
  exact ⟨tdiv_nn2 (by omega) hg, frac_den (M := 10000) (by omega)⟩
/-- The order of prices: by the bound, then by the price. -/
abbrev lsI (s : Si) (t : St8) (a b : Int × Int) : Int := fstE [cmpF (bdF s t a) (bdF s t b), cmpF a b]
abbrev lsB (s : Si) (t : St8) (a b : Int × Int) : Bool := decide (lsI s t a b < 0)
theorem C88 {s : Si} {t : St8} {a b : Int × Int} : (OnOk s t ∧ prOk a ∧ prOk b) → PFD Tryz.prog 88 [frv a, frv b, .c (.rp (diD s t))] (vi .i64 (lsI s t a b)) := fun ⟨h, ha, hb⟩ => by
  have c1 := C85 (s := s) (t := t) (p := a) ⟨h, ha⟩
  have c2 := C85 (s := s) (t := t) (p := b) ⟨h, hb⟩
  have c3 := C89 (a := bdF s t a) (b := bdF s t b) ⟨bdF_sm h ha, bdF_sm h hb⟩
  have c4 := C89 (a := a) (b := b) ⟨ha.sm, hb.sm⟩
  obtain ⟨q, hq⟩ : ∃ q, q = lsI s t a b := ⟨_, rfl⟩
  rw [← hq]
  rw [lsI] at hq
  generalize bdF s t a = A at *
  generalize bdF s t b = B at *
  generalize cmpF A B = x at *
  generalize cmpF a b = y at *
  refine pi1 fn88 ?_
  (repeat' first | (refine Owe.same ?_; first | refine Owe.o ?_ | refine Owe.mk ?_ ?_) | (refine Fork.same ?_; (first | refine fkY ?_ | refine fkF ?_ | ((first | refine fkD ?_ ?_ | refine fkN ?_ ?_ | refine fkM ?_ ?_) <;> intro h))) | ((first | refine OpsL.same ?_ | refine OpsDL.same ?_); first | refine oK c1 rfl rfl rfl ?_ | refine oK c2 rfl rfl rfl ?_ | refine oK c3 rfl rfl rfl ?_ | refine oK c4 rfl rfl rfl ?_) | refine MvQ.stay ?_)
  (repeat' first | (refine Owe.same ?_; first | refine Owe.o ?_ | refine Owe.mk ?_ ?_) | (refine Fork.same ?_; (first | refine fkD ?_ ?_ | refine fkN ?_ ?_ | refine fkM ?_ ?_) <;> intro h) | ((first | refine OpsL.same ?_ | refine OpsDL.same ?_); first | refine pK C60 rfl rfl ?_) | refine MvQ.stay ?_)
  subst hq
  (refine rqK rfl ?_; (repeat' first | exact rfl | (refine qS ?_; constructor)))
def minS (lt : Int × Int → Int × Int → Bool) : List (Int × Int) → Int × Int
  | [] => (0, 0)
  | x :: l => l.foldl (fun m y => if lt y m = true then y else m) x
theorem minS_app {lt : Int × Int → Int × Int → Bool} {l : List (Int × Int)} {y : Int × Int} (h : l ≠ []) : minS lt (l ++ [y]) = if lt y (minS lt l) = true then y else minS lt l := by
  cases l with
  | nil => exact absurd rfl h
  | cons x l => simp only [minS, List.cons_append, List.foldl_append, List.foldl_cons, List.foldl_nil]; rfl
theorem minS_take {lt : Int × Int → Int × Int → Bool} {l : List (Int × Int)} {k : Nat} (h : 0 < k) (hk : k < l.length) : minS lt (l.take (k + 1)) = if lt (l.getD k (0, 0)) (minS lt (l.take k)) = true then l.getD k (0, 0) else minS lt (l.take k) := by
  have e : l.take (k + 1) = l.take k ++ [l.getD k (0, 0)] := by
    rw [List.getD_eq_getElem?_getD, List.getElem?_eq_getElem hk]; exact (List.take_append_getElem hk).symm
  rw [e, minS_app (by intro h0; have := congrArg List.length h0; rw [List.length_take] at this; simp only [List.length_nil] at this; omega)]
theorem C87 {g : FuncId} {rows : List (List D)} {l : List (Int × Int)} {ok : Int × Int → Prop} {lt : Int × Int → Int × Int → Int} (hl : 0 < l.length ∧ l.length ≤ 1000000) (hok : ∀ i, i < l.length → ok (l.getD i (0, 0)))
    (hg : ∀ a b, ok a → ok b → PFD Tryz.prog g (frv a :: frv b :: rows.map fun r => .c (.rp r)) (vi .i64 (lt a b))) : PFD Tryz.prog 87 [.c (prs l), .c (.fnR g rows)] (frv (minS (fun a b => decide (lt a b < 0)) l)) := by
  obtain ⟨q, hq⟩ : ∃ q, q = minS (fun a b => decide (lt a b < 0)) l := ⟨_, rfl⟩
  rw [← hq]
  have e0 : minS (fun a b => decide (lt a b < 0)) (l.take (0 + 1)) = l.getD 0 (0, 0) := by
    cases l with
    | nil => exact absurd hl.1 (by decide)
    | cons x l => rfl
  refine pi1 fn87 ?_
  (repeat' first | (refine Owe.same ?_; first | refine Owe.o ?_ | refine Owe.mk ?_ ?_) | (refine Fork.same ?_; (first | refine fkD ?_ ?_ | refine fkN ?_ ?_ | refine fkM ?_ ?_) <;> intro h) | refine MvQ.stay ?_)
  · exfalso; omega
  refine Sat.lp (fun ((k, m) : Nat × (Int × Int)) => ⟨[(6, vi .i64 ((k : Int) + 1)), (0, .c (prs l)), (1, .c (.fnR g rows)), (4, .c (.bp 0 0)), (5, .c (.bp 1 0))], [(1, .box [int m.1, int m.2]), (0, .box [int 0, int 0])], 2⟩) (fun ((k, m) : Nat × (Int × Int)) => k + 1 ≤ l.length ∧ ok m ∧ m = minS (fun a b => decide (lt a b < 0)) (l.take (k + 1))) (fun ((k, m) : Nat × (Int × Int)) => l.length - k) (0, l.getD 0 (0, 0)) [0, 1] ⟨by omega, hok 0 hl.1, e0.symm⟩ (by (refine qis ?_ ?_ <;> (repeat' first | exact rfl | (refine qS ?_; constructor)))) ?_
  rintro ⟨k, m⟩ ⟨hk, hm, hM⟩
  refine Fork.dec (fun hlt => ?_) (fun hlt => ?_)
  · have hlt : k + 1 < l.length := by omega
    have c1 := hg (l.getD (k + 1) (0, 0)) m (hok _ hlt) hm
    have hs := minS_take (lt := fun a b => decide (lt a b < 0)) (l := l) (k := k + 1) (by omega) hlt
    rw [← hM] at hs
    have ho := hok _ hlt
    have e : ((k : Int) + 1).toNat = k + 1 := by omega
    rw [← e] at c1
    (repeat' first | (refine Owe.same ?_; first | refine Owe.o ?_ | refine Owe.mk ?_ ?_) | (refine Fork.same ?_; (first | refine fkD ?_ ?_ | refine fkN ?_ ?_ | refine fkM ?_ ?_) <;> intro h) | ((first | refine OpsL.same ?_ | refine OpsDL.same ?_); first | refine pR c1 rfl rfl ?_) | refine MvQ.stay ?_)
    · rw [e] at h
      rw [if_pos (decide_eq_true h)] at hs
      refine again (k + 1, l.getD (k + 1) (0, 0)) [0, 1] ⟨by omega, ho, hs.symm⟩ (show l.length - (k + 1) < l.length - k by omega) ?_
      rw [← e]
      (refine qis ?_ ?_ <;> (repeat' first | exact rfl | (refine qS ?_; constructor)))
    · rw [e] at h
      rw [if_neg (by simpa using h)] at hs
      exact again (k + 1, m) [0, 1] ⟨by omega, hm, hs.symm⟩ (show l.length - (k + 1) < l.length - k by omega) (by (refine qis ?_ ?_ <;> (repeat' first | exact rfl | (refine qS ?_; constructor))))
  · have : k + 1 = l.length := by omega
    rw [this, List.take_length, ← hq] at hM
    subst hM
    (repeat' first | (refine Owe.same ?_; first | refine Owe.o ?_ | refine Owe.mk ?_ ?_) | (refine Fork.same ?_; (first | refine fkD ?_ ?_ | refine fkN ?_ ?_ | refine fkM ?_ ?_) <;> intro h) | refine MvQ.stay ?_)
    (refine rqK rfl ?_; (repeat' first | exact rfl | (refine qS ?_; constructor)))
end Go.Pw

set_option linter.unusedVariables false
set_option maxHeartbeats 2000000
set_option maxRecDepth 100000
namespace Go.Pw
open Go Go.Proofs
/-- moonpool/dive.BestPrice -/
def lc40u : LCode :=
  (.seq (.region [⟨some 2, .boxS (.tmp 0), none⟩, ⟨some 3, .boxS (.tmp 1), none⟩, ⟨some 4, .alloc [(.int .i64 0), (.int .i64 0)], none⟩, ⟨some 5, .alloc [(.int .i64 0), (.int .i64
    0)], none⟩, ⟨some 6, .mv (.const (.int .i64 0)), none⟩]) (.seq (.region [⟨some 14, .load true 8 (.tmp 2), none⟩, ⟨some 15, .load true 5 (.tmp 3), none⟩, ⟨some 16, .call (.func
    66) [(.tmp 14), (.tmp 15)], none⟩, ⟨some 13, .mv (.tmp 16), none⟩, ⟨some 17, .ext (.tmp 13) 0, none⟩, ⟨some 18, .ext (.tmp 13) 1, none⟩, ⟨some 7, .alloc [(.slice none 0 0),
    (.slice none 0 0), (.slice none 0 0), (.slice none 0 0), (.int .i64 0), (.int .i64 0), (.int .i64 0), (.int .i64 0), (.int .i64 0), (.int .i64 0), (.int .i64 0), (.int .i64 0),
    (.slice none 0 0)], none⟩, ⟨none, .store 13 (.tmp 7) (.tmp 17), none⟩, ⟨some 8, .mv (.tmp 18), none⟩]) (.seq (.seq (.region [⟨some 19, .mv (.tmp 8), none⟩, ⟨some 20, .bin .neq
    (.tmp 19) (.const (.int .i64 0)), none⟩]) (.cond (.tmp 20) (.seq (.region [⟨some 21, .build [(.int .i64 0), (.int .i64 0)] [], none⟩, ⟨some 22, .build [(.int .i64 0), (.int .i64
    0)] [], none⟩, ⟨some 23, .mv (.tmp 8), none⟩, ⟨none, .store 2 (.tmp 4) (.tmp 21), none⟩, ⟨none, .store 2 (.tmp 5) (.tmp 22), none⟩, ⟨some 6, .mv (.tmp 23), none⟩]) .ret) .skip))
    (.seq (.region [⟨some 24, .build [(.int .i64 0), (.int .i64 0)] [(1, 1, (.const (.int .i64 1)))], none⟩, ⟨some 25, .lit true 74 2 [(.tmp 24)], none⟩, ⟨some 9, .mv (.tmp 25),
    none⟩]) (.seq (.seq (.region [⟨some 26, .fld 0 (.tmp 7), none⟩, ⟨some 27, .fld 0 (.tmp 26), none⟩, ⟨some 28, .load false 1 (.tmp 27), none⟩, ⟨some 29, .len (.tmp 28), none⟩,
    ⟨some 30, .mv (.const (.int .i64 0)), none⟩]) (.block 0 (.loop (.seq (.region [⟨some 31, .bin .lss (.tmp 30) (.tmp 29), none⟩]) (.seq (.cond (.tmp 31) .skip (.exit 0)) (.seq
    (.block 1 (.seq (.region [⟨some 32, .mv (.tmp 30), none⟩, ⟨some 33, .idx 9 (.tmp 28) (.tmp 30), none⟩, ⟨some 34, .load true 9 (.tmp 33), none⟩, ⟨some 11, .alloc [(.string
    ⟨#[]⟩), (.int .i64 0), (.int .i64 0), (.int .i64 0), (.int .i64 0), (.int .i64 0), (.int .i64 0), (.int .i64 0), (.slice none 0 0)], none⟩, ⟨some 10, .mv (.tmp 32), none⟩,
    ⟨none, .store 9 (.tmp 11) (.tmp 34), none⟩]) (.seq (.region [⟨some 35, .load true 13 (.tmp 7), none⟩, ⟨some 36, .mv (.tmp 10), none⟩, ⟨some 37, .call (.func 57) [(.tmp 35),
    (.tmp 36)], none⟩, ⟨some 38, .un .not (.tmp 37), none⟩, ⟨some 39, .mv (.tmp 38), none⟩, ⟨some 40, .fld 3 (.tmp 11), some (39, true)⟩, ⟨some 41, .load false 1 (.tmp 40), some
    (39, true)⟩, ⟨some 42, .bin .gtr (.tmp 41) (.const (.int .i64 0)), some (39, true)⟩, ⟨some 43, .pick (.tmp 39) (.tmp 42) (.const (.bool false)), none⟩]) (.cond (.tmp 43)
    (.region [⟨some 44, .mv (.tmp 9), none⟩, ⟨some 45, .fld 5 (.tmp 11), none⟩, ⟨some 46, .load false 1 (.tmp 45), none⟩, ⟨some 47, .fld 3 (.tmp 11), none⟩, ⟨some 48, .load false 1
    (.tmp 47), none⟩, ⟨some 49, .call (.func 86) [(.tmp 46), (.tmp 48)], none⟩, ⟨some 50, .lit false 74 2 [(.tmp 49)], none⟩, ⟨some 51, .append true 74 2 16 (.tmp 44) (.tmp 50),
    none⟩, ⟨some 9, .mv (.tmp 51), none⟩]) .skip)))) (.region [⟨some 52, .bin .add (.tmp 30) (.const (.int .i64 1)), none⟩, ⟨some 30, .mv (.tmp 52), none⟩]))))))) (.seq (.stop
    (.region [⟨some 53, .mv (.tmp 9), none⟩, ⟨some 54, .mkfn 88 [(.tmp 7)], none⟩, ⟨some 55, .call (.func 87) [(.tmp 53), (.tmp 54)], none⟩, ⟨some 12, .alloc [(.int .i64 0), (.int
    .i64 0)], none⟩, ⟨none, .store 2 (.tmp 12) (.tmp 55), none⟩])) (.seq (.regionD [⟨some 56, .load true 2 (.tmp 12), none⟩, ⟨some 57, .load true 13 (.tmp 7), none⟩, ⟨some 58, .load
    true 2 (.tmp 12), none⟩, ⟨some 59, .call (.func 85) [(.tmp 57), (.tmp 58)], none⟩, ⟨none, .store 2 (.tmp 4) (.tmp 56), none⟩, ⟨none, .store 2 (.tmp 5) (.tmp 59), none⟩, ⟨some 6,
    .mv (.const (.int .i64 0)), none⟩] [0, 0, 0, 6, 15, 31, 63] [0, 1, 2, 3, 4, 5, 6]) .ret)))))))
theorem low40u : lowF Tryz.prog [2, 3, 25, 51] Tryz.f40 = some (60, lc40u.strip, [.cell 4 true 2, .cell 5 true 2, .tmp 6]) := by kernel_rfl
theorem fn40u : FnOk Tryz.prog 40 60 lc40u [.cell 4 true 2, .cell 5 true 2, .tmp 6] := ⟨Tryz.call40, [2, 3, 25, 51], _, Tryz.func40, low40u⟩
end Go.Pw

set_option linter.unusedSimpArgs false
set_option linter.unusedVariables false
set_option maxHeartbeats 4000000
namespace Go.Pw
set_option maxRecDepth 2000
open Go Go.Proofs A1 A2 A3 A4
/-- The prices that are looked at. -/
def cdL (s : Si) (t : St8) : Nat → List (Int × Int)
  | 0 => [(0, 1)]
  | k + 1 => if (k : Int) ∈ t.d ∨ ¬ (tkA s k).w > 0 then cdL s t k else cdL s t k ++ [frac (tkA s k).v (tkA s k).w]
theorem cdL_pos {s : Si} {t : St8} : ∀ k, 0 < (cdL s t k).length
  | 0 => by simp [cdL]
  | k + 1 => by have := cdL_pos (s := s) (t := t) k; rw [cdL]; split <;> simp <;> omega
theorem cdL_len {s : Si} {t : St8} : ∀ k, (cdL s t k).length ≤ k + 1
  | 0 => by simp [cdL]
  | k + 1 => by have := cdL_len (s := s) (t := t) k; rw [cdL]; split <;> simp <;> omega
theorem cdL_ok {s : Si} {t : St8} (h : SiOk s) : ∀ k, k ≤ s.tk.length → ∀ p ∈ cdL s t k, prOk p
  | 0, _, p, hp => by
    rw [cdL, List.mem_singleton] at hp; subst hp; decide
  | k + 1, hk, p, hp => by
    have ih := cdL_ok h k (by omega) (t := t)
    rw [cdL] at hp
    split at hp
    · exact ih p hp
    · rename_i hn
      have ht := h.t k (by omega)
      have e : tkA s (k : Int) = s.tk.getD k tk0 := by simp only [tkA, Int.toNat_natCast]
      rcases List.mem_append.1 hp with h1 | h1
      · exact ih p h1
      · rw [List.mem_singleton] at h1; subst h1
        have h2 : (tkA s (k : Int)).w ≠ 0 := by
          intro h0; refine hn (.inr ?_); omega
        exact prOk.frac (by rw [e]; exact ht.v) ⟨by rw [e]; exact ht.w, h2⟩
abbrev bsF (s : Si) (t : St8) (k : Nat) : Int × Int := minS (lsB s t) (cdL s t k)
theorem bsF_ok {s : Si} {t : St8} (h : SiOk s) : ∀ k, k ≤ s.tk.length → prOk (bsF s t k)
  | 0, _ => by show prOk (0, 1); decide
  | k + 1, hk => by
    have ih := bsF_ok h k (by omega) (t := t)
    have h2 := cdL_ok h (k + 1) hk (t := t)
    have hp := cdL_pos (s := s) (t := t) k
    have hne : cdL s t k ≠ [] := fun h0 => by rw [h0] at hp; simp at hp
    rw [bsF]
    rw [cdL] at h2 ⊢
    split
    · exact ih
    · rename_i hn
      rw [if_neg hn] at h2
      rw [minS_app hne]
      split
      · exact h2 _ (List.mem_append_right _ (List.mem_singleton.2 rfl))
      · exact ih
abbrev bpr (s : Si) (t : St8) : Int × Int := bsF s t s.tk.length
theorem C40 {s : Si} {t : St8} : (SiSm s ∧ t.d.length ≤ 1000000) → PFD Tryz.prog 40 [siv s, stv t] (.tup [frv (if orE s t = 0 then bpr s t else (0, 0)), frv (if orE s t = 0 then bdF s t (bpr s t) else (0, 0)), vi .i64 (orE s t)]) := fun hs => by
  have c1 := C66 (s := s) (t := t) hs
  by_cases h0 : orE s t = 0
  rotate_left
  · rw [if_neg h0, if_neg h0]
    generalize orE s t = e at *
    refine pi3 fn40u ?_
    (repeat' first | (refine Owe.same ?_; first | refine Owe.o ?_ | refine Owe.mk ?_ ?_) | (refine Fork.same ?_; (first | refine fkY ?_ | refine fkF ?_ | ((first | refine fkD ?_ ?_ | refine fkN ?_ ?_ | refine fkM ?_ ?_) <;> intro h))) | ((first | refine OpsL.same ?_ | refine OpsDL.same ?_); first | refine oK c1 rfl rfl rfl ?_) | refine MvQ.stay ?_)
    (refine rqK rfl ?_; (repeat' first | exact rfl | (refine qS ?_; constructor)))
  have hO : OnOk s t := by
    rw [orE] at h0
    split at h0
    · rename_i h1; exact OnOk.of h1
    · rename_i h1; exact absurd h0 h1
  have n6 := hO.ok.n
  have ld := hO.dl
  rw [if_pos h0, if_pos h0]
  rw [h0] at c1 ⊢
  have hB := bsF_ok hO.ok s.tk.length (Nat.le_refl _) (t := t)
  have c5 := C85 (s := s) (t := t) (p := bpr s t) ⟨hO, hB⟩
  have c4 := C87 (g := 88) (rows := [diD s t]) (l := cdL s t s.tk.length) (ok := prOk) (lt := lsI s t) ⟨cdL_pos _, by have := cdL_len (s := s) (t := t) s.tk.length; omega⟩ (fun i hi => cdL_ok hO.ok _ (Nat.le_refl _) _ (getD_mem (0, 0) hi)) (fun a b ha hb => C88 ⟨hO, ha, hb⟩)
  change PFD Tryz.prog 87 _ (frv (bpr s t)) at c4
  generalize bdF s t (bpr s t) = F at *
  generalize bpr s t = B at *
  refine pi3 fn40u ?_
  (repeat' first | (refine Owe.same ?_; first | refine Owe.o ?_ | refine Owe.mk ?_ ?_) | (refine Fork.same ?_; (first | refine fkY ?_ | refine fkF ?_ | ((first | refine fkD ?_ ?_ | refine fkN ?_ ?_ | refine fkM ?_ ?_) <;> intro h))) | ((first | refine OpsL.same ?_ | refine OpsDL.same ?_); first | refine oK c1 rfl rfl rfl ?_) | refine MvQ.stay ?_)
  (repeat' first | (refine Owe.same ?_; first | refine Owe.o ?_ | refine Owe.mk ?_ ?_) | (refine Fork.same ?_; (first | refine fkD ?_ ?_ | refine fkN ?_ ?_ | refine fkM ?_ ?_) <;> intro h) | refine MvQ.stay ?_)
  refine SatL.frB 2 [7] rfl rfl ?_
  show SatL _ _ _ _ _ _
  refine Sat.lp (fun k : Nat => ⟨[(30, vi .i64 k), (29, vi .i64 s.tk.length), (28, .c (tks s.tk)), (9, .c (.ms 2 (cdL s t k).length)), (7, .c (.rp (diD s t))), (6, vi .i64 0), (5, .c (.bp 1 0)), (4, .c (.bp 0 0))], [(2, rowv 74 2 r2 (0, 0) (cdL s t k)), (1, .box [int 0, int 0]), (0, .box [int 0, int 0])], 3⟩) (fun k => k ≤ s.tk.length) (fun k => s.tk.length - k) 0 [0, 1, 3] (Nat.zero_le _) ?_ ?_
  · (refine qis ?_ ?_ <;> (repeat' first | exact rfl | (refine qS ?_; constructor)))
  intro k hk
  refine Fork.dec (fun hlt => ?_) (fun hlt => ?_)
  · have hlt : k < s.tk.length := by omega
    have hcl := cdL_len (s := s) (t := t) k
    have ht := hO.ok.t k hlt
    have hv := ht.v
    have hw := ht.w
    have c2 := C57 (s := s) (t := t) (n := (k : Int)) (by omega)
    have e0 : tkA s (k : Int) = s.tk.getD k tk0 := by simp only [tkA, Int.toNat_natCast]
    by_cases hm : (k : Int) ∈ t.d
    · have e : cdL s t (k + 1) = cdL s t k := by rw [cdL, if_pos (.inl hm)]
      rw [decide_eq_true hm] at c2
      (repeat' first | (refine Owe.same ?_; first | refine Owe.o ?_ | refine Owe.mk ?_ ?_) | (refine Fork.same ?_; (first | refine fkY ?_ | refine fkF ?_ | ((first | refine fkD ?_ ?_ | refine fkN ?_ ?_ | refine fkM ?_ ?_) <;> intro h))) | ((first | refine OpsL.same ?_ | refine OpsDL.same ?_); first | refine oK c2 rfl rfl rfl ?_) | refine MvQ.stay ?_)
      refine again (k + 1) [0, 1, 2] hlt (by omega) ?_
      rw [e]
      (refine qis ?_ ?_ <;> (repeat' first | exact rfl | (refine qS ?_; constructor)))
    · rw [decide_eq_false hm] at c2
      by_cases hW : (s.tk.getD k tk0).w > 0
      · have e : cdL s t (k + 1) = cdL s t k ++ [frac (s.tk.getD k tk0).v (s.tk.getD k tk0).w] := by
          rw [cdL, if_neg (by rw [e0]; exact fun h => h.elim hm fun h => h hW), e0]
        have c3 := C86 (n := (s.tk.getD k tk0).v) (d := (s.tk.getD k tk0).w) ⟨by simp only [Md]; omega, by simp only [Md]; omega, by omega⟩
        generalize frac (s.tk.getD k tk0).v (s.tk.getD k tk0).w = f at *
        (repeat' first | (refine Owe.same ?_; first | refine Owe.o ?_ | refine Owe.mk ?_ ?_) | (refine Fork.same ?_; (first | refine fkY ?_ | refine fkF ?_ | ((first | refine fkD ?_ ?_ | refine fkN ?_ ?_ | refine fkM ?_ ?_) <;> intro h))) | ((first | refine OpsL.same ?_ | refine OpsDL.same ?_); first | refine oK c2 rfl rfl rfl ?_ | refine oK c3 rfl rfl rfl ?_) | refine MvQ.stay ?_)
        · refine again (k + 1) [0, 1, 4] hlt (by omega) ?_
          (refine qis ?_ ?_ <;> (repeat' first | exact rfl | (refine qS ?_; constructor)))
          · rw [e]; simp
          · exact e
        · exact absurd hW h
      · have e : cdL s t (k + 1) = cdL s t k := by rw [cdL, if_pos (.inr (by rw [e0]; exact hW))]
        (repeat' first | (refine Owe.same ?_; first | refine Owe.o ?_ | refine Owe.mk ?_ ?_) | (refine Fork.same ?_; (first | refine fkY ?_ | refine fkF ?_ | ((first | refine fkD ?_ ?_ | refine fkN ?_ ?_ | refine fkM ?_ ?_) <;> intro h))) | ((first | refine OpsL.same ?_ | refine OpsDL.same ?_); first | refine oK c2 rfl rfl rfl ?_) | refine MvQ.stay ?_)
        · exact absurd h hW
        · refine again (k + 1) [0, 1, 2] hlt (by omega) ?_
          rw [e]
          (refine qis ?_ ?_ <;> (repeat' first | exact rfl | (refine qS ?_; constructor)))
  · obtain rfl : k = s.tk.length := by omega
    (repeat' first | (refine Owe.same ?_; first | refine Owe.o ?_ | refine Owe.mk ?_ ?_) | (refine Fork.same ?_; (first | refine fkD ?_ ?_ | refine fkN ?_ ?_ | refine fkM ?_ ?_) <;> intro h) | refine MvQ.stay ?_)
    refine SatL.frz 9 2 rfl rfl (Nat.le_refl _) ?_
    refine SatL.go ?_
    (repeat' first | (refine Owe.same ?_; first | refine Owe.o ?_ | refine Owe.mk ?_ ?_) | (refine Fork.same ?_; (first | refine fkY ?_ | refine fkF ?_ | ((first | refine fkD ?_ ?_ | refine fkN ?_ ?_ | refine fkM ?_ ?_) <;> intro h))) | ((first | refine OpsL.same ?_ | refine OpsDL.same ?_); first | refine oK c4 rfl rfl rfl ?_ | refine oK c5 rfl rfl rfl ?_) | refine MvQ.stay ?_)
    (refine rqK rfl ?_; (repeat' first | exact rfl | (refine qS ?_; constructor)))
end Go.Pw

set_option linter.unusedSimpArgs false
set_option linter.unusedVariables false
set_option maxHeartbeats 4000000
namespace Go.Pw
set_option maxRecDepth 2000
open Go Go.Proofs A1 A2 A3 A4
theorem C118w {a : Int} : (-9223372036854775807 ≤ a ∧ a ≤ 9223372036854775807) → PFD Tryz.prog 118 [vi .i64 a] (vi .i64 (max a (-a))) := fun ha => by
  refine pi1 fn118 ?_
  (repeat' first | (refine Owe.same ?_; first | refine Owe.o ?_ | refine Owe.mk ?_ ?_) | (refine Fork.same ?_; (first | refine fkD ?_ ?_ | refine fkN ?_ ?_ | refine fkM ?_ ?_) <;> intro h) | refine MvQ.stay ?_)
  (refine rqK rfl ?_; (repeat' first | exact rfl | (refine qS ?_; constructor)))
theorem C91w {a b : Int} : (w64 a ∧ w64 b ∧ 0 < b) → PFD Tryz.prog 91 [vi .i64 a, vi .i64 b] (vi .i64 (gcdI a b)) := fun ⟨ha, hb, h0⟩ => by
  refine pi1 fn91 ?_
  (repeat' first | (refine Owe.same ?_; first | refine Owe.o ?_ | refine Owe.mk ?_ ?_) | (refine Fork.same ?_; (first | refine fkD ?_ ?_ | refine fkN ?_ ?_ | refine fkM ?_ ?_) <;> intro h) | refine MvQ.stay ?_)
  refine Sat.lp0 (fun p : Int × Int => [(0, vi .i64 p.1), (1, vi .i64 p.2)]) (fun p => ((-9223372036854775808 ≤ p.1 ∧ p.1 ≤ 9223372036854775807) ∧ (-9223372036854775807 ≤ p.2 ∧ p.2 ≤ 9223372036854775807) ∧ (p.2 = 0 → -9223372036854775807 ≤ p.1)) ∧ Int.gcd p.1 p.2 = Int.gcd a b) (fun p => p.2.natAbs) (a, b) ⟨⟨by omega, by omega, by intro h; omega⟩, rfl⟩ (by ((first | refine qen ?_ | refine qvs ?_ | refine qeq ?_ | refine qst ?_ | refine qv ?_ | refine qc ?_ | refine qe ?_ | refine qcs ?_ | skip); (repeat' first | exact rfl | (refine qS ?_; constructor)))) ?_
  rintro ⟨x, y⟩ ⟨⟨m1, m2, m3⟩, hg⟩
  dsimp only at m1 m2 m3
  have m4 : y = 0 → -9223372036854775807 ≤ x := m3
  (repeat' first | (refine Owe.same ?_; first | refine Owe.o ?_ | refine Owe.mk ?_ ?_) | (refine Fork.same ?_; (first | refine fkD ?_ ?_ | refine fkN ?_ ?_ | refine fkM ?_ ?_) <;> intro h) | ((first | refine OpsL.same ?_ | refine OpsDL.same ?_); first | refine pK C118w rfl rfl ?_) | refine MvQ.stay ?_)
  · have hne : y ≠ 0 := h
    have h1 := tmod_abs (a := x) hne
    exact again0 (y, x.tmod y) ⟨⟨by dsimp only; omega, by dsimp only; omega, fun _ => by dsimp only; omega⟩, by rw [gcd_step]; exact hg⟩ h1 (by ((first | refine qen ?_ | refine qvs ?_ | refine qeq ?_ | refine qst ?_ | refine qv ?_ | refine qc ?_ | refine qe ?_ | refine qcs ?_ | skip); (repeat' first | exact rfl | (refine qS ?_; constructor))))
  · (refine rqK rfl ?_; (repeat' first | exact rfl | (refine qS ?_; constructor)))
    have h : y = 0 := h
    subst h
    exact (gcd_zero x).symm.trans (by simp only [gcdI]; rw [← hg])
theorem C83w {a b : Int} : (w64 a ∧ w64 b ∧ 0 < b) → PFD Tryz.prog 83 [vi .i64 a, vi .i64 b] (vi .i64 (gcdI a b)) := fun ⟨ha, hb, h0⟩ => by
  refine pi1 fn83 ?_
  (repeat' first | (refine Owe.same ?_; first | refine Owe.o ?_ | refine Owe.mk ?_ ?_) | (refine Fork.same ?_; (first | refine fkD ?_ ?_ | refine fkN ?_ ?_ | refine fkM ?_ ?_) <;> intro h) | refine MvQ.stay ?_)
  refine Sat.lp0 (fun p : Int × Int => [(0, vi .i64 p.1), (1, vi .i64 p.2)]) (fun p => ((-9223372036854775808 ≤ p.1 ∧ p.1 ≤ 9223372036854775807) ∧ (-9223372036854775807 ≤ p.2 ∧ p.2 ≤ 9223372036854775807) ∧ (p.2 = 0 → -9223372036854775807 ≤ p.1)) ∧ Int.gcd p.1 p.2 = Int.gcd a b) (fun p => p.2.natAbs) (a, b) ⟨⟨by omega, by omega, by intro h; omega⟩, rfl⟩ (by ((first | refine qen ?_ | refine qvs ?_ | refine qeq ?_ | refine qst ?_ | refine qv ?_ | refine qc ?_ | refine qe ?_ | refine qcs ?_ | skip); (repeat' first | exact rfl | (refine qS ?_; constructor)))) ?_
  rintro ⟨x, y⟩ ⟨⟨m1, m2, m3⟩, hg⟩
  dsimp only at m1 m2 m3
  have m4 : y = 0 → -9223372036854775807 ≤ x := m3
  (repeat' first | (refine Owe.same ?_; first | refine Owe.o ?_ | refine Owe.mk ?_ ?_) | (refine Fork.same ?_; (first | refine fkD ?_ ?_ | refine fkN ?_ ?_ | refine fkM ?_ ?_) <;> intro h) | refine MvQ.stay ?_)
  · have hne : y ≠ 0 := h
    have h1 := tmod_abs (a := x) hne
    exact again0 (y, x.tmod y) ⟨⟨by dsimp only; omega, by dsimp only; omega, fun _ => by dsimp only; omega⟩, by rw [gcd_step]; exact hg⟩ h1 (by ((first | refine qen ?_ | refine qvs ?_ | refine qeq ?_ | refine qst ?_ | refine qv ?_ | refine qc ?_ | refine qe ?_ | refine qcs ?_ | skip); (repeat' first | exact rfl | (refine qS ?_; constructor))))
  · have h : y = 0 := by omega
    subst h
    have := m3 rfl
    (repeat' first | (refine Owe.same ?_; first | refine Owe.o ?_ | refine Owe.mk ?_ ?_) | (refine Fork.same ?_; (first | refine fkD ?_ ?_ | refine fkN ?_ ?_ | refine fkM ?_ ?_) <;> intro h) | refine MvQ.stay ?_)
    (refine rqK rfl ?_; (repeat' first | exact rfl | (refine qS ?_; constructor)))
    exact (gcd_zero x).symm.trans (by simp only [gcdI]; rw [← hg])
abbrev lwP (p : Int × Int) : Prop := 0 < p.2 ∧ gcdI p.1 p.2 = 1
theorem C44 {p : Int × Int} : (w64 p.1 ∧ w64 p.2) → PFD Tryz.prog 44 [frv p] (vbl (decide (lwP p))) := fun h => by
  obtain ⟨q, hq⟩ : ∃ q, q = decide (lwP p) := ⟨_, rfl⟩
  rw [← hq]
  by_cases h0 : 0 < p.2
  · have c1 := C91w (a := p.1) (b := p.2) ⟨h.1, h.2, h0⟩
    replace hq : q = decide (gcdI p.1 p.2 = 1) := by rw [hq, decide_eq_decide]; exact ⟨fun h => h.2, fun h => ⟨h0, h⟩⟩
    generalize gcdI p.1 p.2 = g at *
    refine pi1 fn44 ?_
    (repeat' first | (refine Owe.same ?_; first | refine Owe.o ?_ | refine Owe.mk ?_ ?_) | (refine Fork.same ?_; (first | refine fkY ?_ | refine fkF ?_ | ((first | refine fkD ?_ ?_ | refine fkN ?_ ?_ | refine fkM ?_ ?_) <;> intro h))) | ((first | refine OpsL.same ?_ | refine OpsDL.same ?_); first | refine oK c1 rfl rfl rfl ?_) | refine MvQ.stay ?_)
    subst hq
    (refine rqK rfl ?_; (repeat' first | exact rfl | (refine qS ?_; constructor)))
  · have hq : q = false := by rw [hq, decide_eq_false_iff_not]; exact fun h => h0 h.1
    subst hq
    refine pi1 fn44 ?_
    (repeat' first | (refine Owe.same ?_; first | refine Owe.o ?_ | refine Owe.mk ?_ ?_) | (refine Fork.same ?_; (first | refine fkY ?_ | refine fkF ?_ | ((first | refine fkD ?_ ?_ | refine fkN ?_ ?_ | refine fkM ?_ ?_) <;> intro h))) | ((first | refine OpsL.same ?_ | refine OpsDL.same ?_); first | refine oK C75 rfl rfl rfl ?_) | refine MvQ.stay ?_)
    (refine rqK rfl ?_; (repeat' first | exact rfl | (refine qS ?_; constructor)))
theorem bsF_succ {s : Si} {t : St8} {k : Nat} (hn : ¬ ((k : Int) ∈ t.d ∨ ¬ (tkA s k).w > 0)) : bsF s t (k + 1) = if lsI s t (frac (tkA s k).v (tkA s k).w) (bsF s t k) < 0 then frac (tkA s k).v (tkA s k).w else bsF s t k := by
  have hp := cdL_pos (s := s) (t := t) k
  have hne : cdL s t k ≠ [] := fun h0 => by rw [h0] at hp; simp at hp
  rw [bsF, cdL, if_neg hn, minS_app hne]
  simp only [lsB, decide_eq_true_eq]
theorem bsF_same {s : Si} {t : St8} {k : Nat} (hn : (k : Int) ∈ t.d ∨ ¬ (tkA s k).w > 0) : bsF s t (k + 1) = bsF s t k := by
  rw [bsF, cdL, if_pos hn]
theorem ls_lt {x y : Int} (h : x < 0) : fstE [x, y] < 0 := by
  rw [fstE, if_neg (by omega)]; exact h
theorem ls_eq {x y : Int} (h : x = 0) : fstE [x, y] = y := by
  subst h
  rw [fstE, if_pos rfl, fstE]; split
  · rename_i h; rw [h]; rfl
  · rfl
theorem ls_gt {x y : Int} (h : ¬ x < 0) (h0 : ¬ x = 0) : ¬ fstE [x, y] < 0 := by
  rw [fstE, if_neg h0]; exact h
theorem C41 {s : Si} {t : St8} : OnOk s t → PFD Tryz.prog 41 [siv s, stv t] (.tup [frv (bpr s t), frv (bdF s t (bpr s t))]) := fun hO => by
  have n6 := hO.ok.n
  have ld := hO.dl
  have c43 := fun p hp => C43 (s := s) (t := t) (p := p) ⟨hO, hp⟩
  have c0 := c43 (0, 1) (by decide)
  refine pi2 fn41 ?_
  (repeat' first | (refine Owe.same ?_; first | refine Owe.o ?_ | refine Owe.mk ?_ ?_) | (refine Fork.same ?_; (first | refine fkY ?_ | refine fkF ?_ | ((first | refine fkD ?_ ?_ | refine fkN ?_ ?_ | refine fkM ?_ ?_) <;> intro h))) | ((first | refine OpsL.same ?_ | refine OpsDL.same ?_); first | refine oK c0 rfl rfl rfl ?_) | refine MvQ.stay ?_)
  refine Sat.lp (fun k : Nat => ⟨[(8, vi .i64 k), (7, .c (.bp 3 0)), (6, .c (.bp 2 0)), (2, .c (.rp (siD s))), (3, .c (.rp (stD t))), (5, .c (.bp 1 0)), (4, .c (.bp 0 0))], [(3, .box [int (bdF s t (bsF s t k)).1, int (bdF s t (bsF s t k)).2]), (2, .box [int (bsF s t k).1, int (bsF s t k).2]), (1, .box [int 0, int 0]), (0, .box [int 0, int 0])], 4⟩) (fun k => k ≤ s.tk.length) (fun k => s.tk.length - k) 0 [0, 1, 2, 3] (Nat.zero_le _) ?_ ?_
  · (refine qis ?_ ?_ <;> (repeat' first | exact rfl | (refine qS ?_; constructor)))
  intro k hk
  have hB := bsF_ok hO.ok k hk (t := t)
  have hbB := bdF_sm hO hB
  refine Fork.dec (fun hlt => ?_) (fun hlt => ?_)
  · have hlt : k < s.tk.length := by omega
    have ht := hO.ok.t k hlt
    have hv := ht.v
    have hw := ht.w
    have c2 := C20 (l := t.d) (n := (k : Int)) (by omega)
    have e0 : tkA s (k : Int) = s.tk.getD k tk0 := by simp only [tkA, Int.toNat_natCast]
    by_cases hm : (k : Int) ∈ t.d
    · have e : bsF s t (k + 1) = bsF s t k := bsF_same (.inl hm)
      rw [decide_eq_true hm] at c2
      (repeat' first | (refine Owe.same ?_; first | refine Owe.o ?_ | refine Owe.mk ?_ ?_) | (refine Fork.same ?_; (first | refine fkY ?_ | refine fkF ?_ | ((first | refine fkD ?_ ?_ | refine fkN ?_ ?_ | refine fkM ?_ ?_) <;> intro h))) | ((first | refine OpsL.same ?_ | refine OpsDL.same ?_); first | refine oK c2 rfl rfl rfl ?_) | refine MvQ.stay ?_)
      refine again (k + 1) [0, 1, 2, 3] hlt (by omega) ?_
      rw [e]
      (refine qis ?_ ?_ <;> (repeat' first | exact rfl | (refine qS ?_; constructor)))
    · rw [decide_eq_false hm] at c2
      by_cases hW : (s.tk.getD k tk0).w = 0
      · have e : bsF s t (k + 1) = bsF s t k := bsF_same (.inr (by rw [e0]; omega))
        (repeat' first | (refine Owe.same ?_; first | refine Owe.o ?_ | refine Owe.mk ?_ ?_) | (refine Fork.same ?_; (first | refine fkY ?_ | refine fkF ?_ | ((first | refine fkD ?_ ?_ | refine fkN ?_ ?_ | refine fkM ?_ ?_) <;> intro h))) | ((first | refine OpsL.same ?_ | refine OpsDL.same ?_); first | refine oK c2 rfl rfl rfl ?_) | refine MvQ.stay ?_)
        · refine again (k + 1) [0, 1, 2, 3] hlt (by omega) ?_
          rw [e]
          (refine qis ?_ ?_ <;> (repeat' first | exact rfl | (refine qS ?_; constructor)))
        · exact absurd hW h
      · have e := bsF_succ (s := s) (t := t) (k := k) (by rw [e0]; exact fun h => h.elim hm fun h => h (by omega))
        rw [e0] at e
        have hF := prOk.frac hv ⟨hw, hW⟩
        have hbF := bdF_sm hO hF
        have c3 := C90 (n := (s.tk.getD k tk0).v) (d := (s.tk.getD k tk0).w) ⟨by simp only [Md]; omega, by simp only [Md]; omega, by omega⟩
        have c4 := c43 _ hF
        have c5 := C45 ⟨hbF, hbB⟩
        have c6 := C45 ⟨hF.sm, hB.sm⟩
        rw [lsI] at e
        generalize frac (s.tk.getD k tk0).v (s.tk.getD k tk0).w = f at *
        generalize hbb : bdF s t (bsF s t k) = BB at *
        generalize hm0 : bsF s t k = m at *
        generalize hfb : bdF s t f = FB at *
        generalize cmpF FB BB = x at *
        generalize cmpF f m = y at *
        (repeat' first | (refine Owe.same ?_; first | refine Owe.o ?_ | refine Owe.mk ?_ ?_) | (refine Fork.same ?_; (first | refine fkY ?_ | refine fkF ?_ | ((first | refine fkD ?_ ?_ | refine fkN ?_ ?_ | refine fkM ?_ ?_) <;> intro h))) | ((first | refine OpsL.same ?_ | refine OpsDL.same ?_); first | refine oK c2 rfl rfl rfl ?_ | refine oK c3 rfl rfl rfl ?_ | refine oK c4 rfl rfl rfl ?_ | refine oK c5 rfl rfl rfl ?_ | refine oK c6 rfl rfl rfl ?_) | refine MvQ.stay ?_)
        · exact absurd h hW
        · rw [if_pos (ls_lt h)] at e
          subst hfb
          refine again (k + 1) [0, 1, 2, 3] hlt (by omega) ?_
          rw [e]
          (refine qis ?_ ?_ <;> (repeat' first | exact rfl | (refine qS ?_; constructor)))
        · rename_i h1
          rw [ls_eq h1, if_pos h] at e
          subst hfb
          refine again (k + 1) [0, 1, 2, 3] hlt (by omega) ?_
          rw [e]
          (refine qis ?_ ?_ <;> (repeat' first | exact rfl | (refine qS ?_; constructor)))
        · rename_i h1
          rw [ls_eq h1, if_neg h] at e
          refine again (k + 1) [0, 1, 2, 3] hlt (by omega) ?_
          rw [e, hbb]
          (refine qis ?_ ?_ <;> (repeat' first | exact rfl | (refine qS ?_; constructor)))
        · rename_i h1
          rw [if_neg (ls_gt h1 h)] at e
          refine again (k + 1) [0, 1, 2, 3] hlt (by omega) ?_
          rw [e, hbb]
          (refine qis ?_ ?_ <;> (repeat' first | exact rfl | (refine qS ?_; constructor)))
  · obtain rfl : k = s.tk.length := by omega
    (repeat' first | (refine Owe.same ?_; first | refine Owe.o ?_ | refine Owe.mk ?_ ?_) | (refine Fork.same ?_; (first | refine fkD ?_ ?_ | refine fkN ?_ ?_ | refine fkM ?_ ?_) <;> intro h) | refine MvQ.stay ?_)
    (refine rqK rfl ?_; (repeat' first | exact rfl | (refine qS ?_; constructor)))
/-- The error of a price. -/
def prcE (p : Int × Int) : Int := fstE [unl (lwP p) 3, unl (isN p.1 ∧ isN p.2) 2]
theorem prcE_ok {p : Int × Int} : prcE p = 0 ↔ lwP p ∧ isN p.1 ∧ isN p.2 := by
  rw [prcE, fst2, unl0 (by decide), unl0 (by decide)]
theorem prcE.ok {p : Int × Int} (h : prcE p = 0) : prOk p := by
  obtain ⟨h1, h2, h3⟩ := prcE_ok.1 h
  exact ⟨h2, h1.1, h3.2⟩
theorem C42 {p : Int × Int} : (w64 p.1 ∧ w64 p.2) → PFD Tryz.prog 42 [frv p] (vi .i64 (prcE p)) := fun h => by
  have c1 := C44 (p := p) h
  by_cases hl : lwP p
  · have e : prcE p = unl (isN p.1 ∧ isN p.2) 2 := by
      rw [prcE, fstE, if_pos (by rw [unl, decide_eq_true hl]; rfl), fstE]; split
      · rename_i h; rw [h]; rfl
      · rfl
    have hp := hl.1
    rw [decide_eq_true hl] at c1
    by_cases hn : isN p.1 ∧ isN p.2
    · rw [unl, decide_eq_true hn] at e
      rw [e]
      refine pi1 fn42 ?_
      (repeat' first | (refine Owe.same ?_; first | refine Owe.o ?_ | refine Owe.mk ?_ ?_) | (refine Fork.same ?_; (first | refine fkY ?_ | refine fkF ?_ | ((first | refine fkD ?_ ?_ | refine fkN ?_ ?_ | refine fkM ?_ ?_) <;> intro h))) | ((first | refine OpsL.same ?_ | refine OpsDL.same ?_); first | refine oK c1 rfl rfl rfl ?_) | refine MvQ.stay ?_)
      (refine rqK rfl ?_; (repeat' first | exact rfl | (refine qS ?_; constructor)))
    · rw [unl, decide_eq_false hn] at e
      rw [e]
      refine pi1 fn42 ?_
      (repeat' first | (refine Owe.same ?_; first | refine Owe.o ?_ | refine Owe.mk ?_ ?_) | (refine Fork.same ?_; (first | refine fkY ?_ | refine fkF ?_ | ((first | refine fkD ?_ ?_ | refine fkN ?_ ?_ | refine fkM ?_ ?_) <;> intro h))) | ((first | refine OpsL.same ?_ | refine OpsDL.same ?_); first | refine oK c1 rfl rfl rfl ?_) | refine MvQ.stay ?_)
      all_goals (refine rqK rfl ?_; (repeat' first | exact rfl | (refine qS ?_; constructor)))
  · have e : prcE p = 3 := by
      rw [prcE, fstE, unl, decide_eq_false hl]; rfl
    rw [decide_eq_false hl] at c1
    rw [e]
    refine pi1 fn42 ?_
    (repeat' first | (refine Owe.same ?_; first | refine Owe.o ?_ | refine Owe.mk ?_ ?_) | (refine Fork.same ?_; (first | refine fkY ?_ | refine fkF ?_ | ((first | refine fkD ?_ ?_ | refine fkN ?_ ?_ | refine fkM ?_ ?_) <;> intro h))) | ((first | refine OpsL.same ?_ | refine OpsDL.same ?_); first | refine oK c1 rfl rfl rfl ?_) | refine MvQ.stay ?_)
    (refine rqK rfl ?_; (repeat' first | exact rfl | (refine qS ?_; constructor)))
def bdE (s : Si) (t : St8) (p : Int × Int) : Int := if orE s t = 0 then prcE p else orE s t
theorem bdE_of {s : Si} {t : St8} {p : Int × Int} {b1 b2 : Bool} (h1 : b1 = decide (lwP p)) (h2 : b2 = decide (isN p.1 ∧ isN p.2)) : fstE [orE s t, unb b1 3, unb b2 2] = bdE s t p := by
  subst h1; subst h2
  rw [fstE, bdE]; rfl
theorem orE.ok {s : Si} {t : St8} (h0 : orE s t = 0) : OnOk s t := by
  rw [orE] at h0
  split at h0
  · rename_i h1; exact OnOk.of h1
  · rename_i h1; exact absurd h0 h1
theorem lb_t {p : Int × Int} (h : 0 < p.2) : decide (gcdI p.1 p.2 = 1) = decide (lwP p) := decide_eq_decide.2 ⟨fun h1 => ⟨h, h1⟩, fun h1 => h1.2⟩
theorem lb_f {p : Int × Int} (h : ¬ 0 < p.2) : false = decide (lwP p) := (decide_eq_false fun h1 => h h1.1).symm
theorem nb_t {p : Int × Int} (h : isN p.1) : decide (isN p.2) = decide (isN p.1 ∧ isN p.2) := decide_eq_decide.2 ⟨fun h1 => ⟨h, h1⟩, fun h1 => h1.2⟩
theorem nb_f {p : Int × Int} (h : ¬ isN p.1) : false = decide (isN p.1 ∧ isN p.2) := (decide_eq_false fun h1 => h h1.1).symm
theorem C39 {s : Si} {t : St8} {p : Int × Int} : (SiSm s ∧ t.d.length ≤ 1000000 ∧ w64 p.1 ∧ w64 p.2) → PFD Tryz.prog 39 [siv s, stv t, frv p] (.tup [frv (if bdE s t p = 0 then bdF s t p else (0, 0)), vi .i64 (bdE s t p)]) := fun ⟨hs, hd, hp⟩ => by
  have c1 := C66 (s := s) (t := t) ⟨hs, hd⟩
  have c5 : bdE s t p = 0 → PFD Tryz.prog 85 [div s t, frv p] (frv (if bdE s t p = 0 then bdF s t p else (0, 0))) := fun h => by
    rw [if_pos h]
    rw [bdE] at h
    split at h
    · rename_i h0
      exact C85 ⟨orE.ok h0, prcE.ok h⟩
    · rename_i h0; exact absurd h h0
  have n0 : ¬ bdE s t p = 0 → (0, 0) = (if bdE s t p = 0 then bdF s t p else (0, 0)) := fun h => (if_neg h).symm
  have of := @bdE_of s t p
  generalize (if bdE s t p = 0 then bdF s t p else (0, 0)) = R at *
  generalize bdE s t p = E at *
  generalize orE s t = oe at *
  refine pi2 fn39 ?_
  (repeat' first | (refine Owe.same ?_; first | refine Owe.o ?_ | refine Owe.mk ?_ ?_) | (refine Fork.same ?_; (first | refine fkD ?_ ?_ | refine fkN ?_ ?_ | refine fkM ?_ ?_) <;> intro h) | ((first | refine OpsL.same ?_ | refine OpsDL.same ?_); first | refine pK c1 rfl rfl ?_ | refine pK C83w rfl rfl ?_ | refine pK C55 rfl rfl ?_ | refine pK C84 rfl rfl ?_ | refine pK C54 rfl rfl ?_) | refine MvQ.stay ?_)
  · rename_i hA hB
    have e := of (lb_t hA) (nb_t hB)
    rw [e] at h
    have e0 := n0 h
    subst e0
    (repeat' first | (refine Owe.same ?_; first | refine Owe.o ?_ | refine Owe.mk ?_ ?_) | (refine Fork.same ?_; (first | refine fkD ?_ ?_ | refine fkN ?_ ?_ | refine fkM ?_ ?_) <;> intro h) | refine MvQ.stay ?_)
    (refine rqK rfl ?_; (repeat' first | exact rfl | (refine qS ?_; constructor)))
    exact e
  · rename_i hA hB
    have e := of (lb_t hA) (nb_t hB)
    rw [e] at h
    have c6 := c5 h
    subst h
    (repeat' first | (refine Owe.same ?_; first | refine Owe.o ?_ | refine Owe.mk ?_ ?_) | (refine Fork.same ?_; (first | refine fkY ?_ | refine fkF ?_ | ((first | refine fkD ?_ ?_ | refine fkN ?_ ?_ | refine fkM ?_ ?_) <;> intro h))) | ((first | refine OpsL.same ?_ | refine OpsDL.same ?_); first | refine oK c6 rfl rfl rfl ?_) | refine MvQ.stay ?_)
    (refine rqK rfl ?_; (repeat' first | exact rfl | (refine qS ?_; constructor)))
  · rename_i hA hB
    have e := of (lb_t hA) (nb_f hB)
    rw [e] at h
    have e0 := n0 h
    subst e0
    (repeat' first | (refine Owe.same ?_; first | refine Owe.o ?_ | refine Owe.mk ?_ ?_) | (refine Fork.same ?_; (first | refine fkD ?_ ?_ | refine fkN ?_ ?_ | refine fkM ?_ ?_) <;> intro h) | refine MvQ.stay ?_)
    (refine rqK rfl ?_; (repeat' first | exact rfl | (refine qS ?_; constructor)))
    exact e
  · rename_i hA hB
    have e := of (lb_t hA) (nb_f hB)
    rw [e] at h
    have c6 := c5 h
    subst h
    (repeat' first | (refine Owe.same ?_; first | refine Owe.o ?_ | refine Owe.mk ?_ ?_) | (refine Fork.same ?_; (first | refine fkY ?_ | refine fkF ?_ | ((first | refine fkD ?_ ?_ | refine fkN ?_ ?_ | refine fkM ?_ ?_) <;> intro h))) | ((first | refine OpsL.same ?_ | refine OpsDL.same ?_); first | refine oK c6 rfl rfl rfl ?_) | refine MvQ.stay ?_)
    (refine rqK rfl ?_; (repeat' first | exact rfl | (refine qS ?_; constructor)))
  · rename_i hA hB
    have e := of (lb_f hA) (nb_t hB)
    rw [e] at h
    have e0 := n0 h
    subst e0
    (repeat' first | (refine Owe.same ?_; first | refine Owe.o ?_ | refine Owe.mk ?_ ?_) | (refine Fork.same ?_; (first | refine fkD ?_ ?_ | refine fkN ?_ ?_ | refine fkM ?_ ?_) <;> intro h) | refine MvQ.stay ?_)
    (refine rqK rfl ?_; (repeat' first | exact rfl | (refine qS ?_; constructor)))
    exact e
  · rename_i hA hB
    have e := of (lb_f hA) (nb_t hB)
    rw [e] at h
    have c6 := c5 h
    subst h
    (repeat' first | (refine Owe.same ?_; first | refine Owe.o ?_ | refine Owe.mk ?_ ?_) | (refine Fork.same ?_; (first | refine fkY ?_ | refine fkF ?_ | ((first | refine fkD ?_ ?_ | refine fkN ?_ ?_ | refine fkM ?_ ?_) <;> intro h))) | ((first | refine OpsL.same ?_ | refine OpsDL.same ?_); first | refine oK c6 rfl rfl rfl ?_) | refine MvQ.stay ?_)
    (refine rqK rfl ?_; (repeat' first | exact rfl | (refine qS ?_; constructor)))
  · rename_i hA hB
    have e := of (lb_f hA) (nb_f hB)
    rw [e] at h
    have e0 := n0 h
    subst e0
    (repeat' first | (refine Owe.same ?_; first | refine Owe.o ?_ | refine Owe.mk ?_ ?_) | (refine Fork.same ?_; (first | refine fkD ?_ ?_ | refine fkN ?_ ?_ | refine fkM ?_ ?_) <;> intro h) | refine MvQ.stay ?_)
    (refine rqK rfl ?_; (repeat' first | exact rfl | (refine qS ?_; constructor)))
    exact e
  · rename_i hA hB
    have e := of (lb_f hA) (nb_f hB)
    rw [e] at h
    have c6 := c5 h
    subst h
    (repeat' first | (refine Owe.same ?_; first | refine Owe.o ?_ | refine Owe.mk ?_ ?_) | (refine Fork.same ?_; (first | refine fkY ?_ | refine fkF ?_ | ((first | refine fkD ?_ ?_ | refine fkN ?_ ?_ | refine fkM ?_ ?_) <;> intro h))) | ((first | refine OpsL.same ?_ | refine OpsDL.same ?_); first | refine oK c6 rfl rfl rfl ?_) | refine MvQ.stay ?_)
    (refine rqK rfl ?_; (repeat' first | exact rfl | (refine qS ?_; constructor)))
end Go.Pw

set_option linter.unusedSimpArgs false
set_option linter.unusedVariables false
set_option maxHeartbeats 4000000
namespace Go.Pw
set_option maxRecDepth 2000
open Go Go.Proofs A1 A2 A3 A4
theorem C6 {s : Si} {t : St8} {p : Int × Int} : (w64 p.1 ∧ w64 p.2) → PFD Tryz.prog 6 [siv s, stv t, frv p] (vbl true) := fun hp => by
  have f1 := C9 (s := s)
  have f2 := C10 (t := t)
  by_cases hf : fewP s
  rotate_left
  · rw [fewB, decide_eq_false hf] at f1
    refine pi1 fn6 ?_
    (repeat' first | (refine Owe.same ?_; first | refine Owe.o ?_ | refine Owe.mk ?_ ?_) | (refine Fork.same ?_; (first | refine fkY ?_ | refine fkF ?_ | ((first | refine fkD ?_ ?_ | refine fkN ?_ ?_ | refine fkM ?_ ?_) <;> intro h))) | ((first | refine OpsL.same ?_ | refine OpsDL.same ?_); first | refine oK C8 rfl rfl rfl ?_ | refine oK f1 rfl rfl rfl ?_) | refine MvQ.stay ?_)
    (refine rqK rfl ?_; (repeat' first | exact rfl | (refine qS ?_; constructor)))
  rw [fewB, decide_eq_true hf] at f1
  have hs := (Few.of hf).sm
  by_cases hd : (t.d.length : Int) ≤ 8
  rotate_left
  · rw [decide_eq_false hd] at f2
    refine pi1 fn6 ?_
    (repeat' first | (refine Owe.same ?_; first | refine Owe.o ?_ | refine Owe.mk ?_ ?_) | (refine Fork.same ?_; (first | refine fkY ?_ | refine fkF ?_ | ((first | refine fkD ?_ ?_ | refine fkN ?_ ?_ | refine fkM ?_ ?_) <;> intro h))) | ((first | refine OpsL.same ?_ | refine OpsDL.same ?_); first | refine oK C8 rfl rfl rfl ?_ | refine oK f1 rfl rfl rfl ?_ | refine oK f2 rfl rfl rfl ?_) | refine MvQ.stay ?_)
    (refine rqK rfl ?_; (repeat' first | exact rfl | (refine qS ?_; constructor)))
  rw [decide_eq_true hd] at f2
  have c1 := C12 hs
  have c2 := C13 (t := t) (by omega)
  have c3 := C39 (s := s) (t := t) (p := p) ⟨hs, by omega, hp⟩
  have c4 := C40 (s := s) (t := t) ⟨hs, by omega⟩
  have c5 := C16 (s := s) (t := t) ⟨hs, by omega⟩
  by_cases h0 : onE s t = 0
  rotate_left
  · have eo : orE s t = onE s t := by rw [orE, if_neg h0]
    have eb : bdE s t p = onE s t := by rw [bdE, eo, if_neg h0]
    rw [eb, if_neg h0] at c3
    rw [eo, if_neg h0, if_neg h0] at c4
    generalize onE s t = e at *
    refine pi1 fn6 ?_
    (repeat' first | (refine Owe.same ?_; first | refine Owe.o ?_ | refine Owe.mk ?_ ?_) | (refine Fork.same ?_; (first | refine fkY ?_ | refine fkF ?_ | ((first | refine fkD ?_ ?_ | refine fkN ?_ ?_ | refine fkM ?_ ?_) <;> intro h))) | ((first | refine OpsL.same ?_ | refine OpsDL.same ?_); first | refine oK C8 rfl rfl rfl ?_ | refine oK f1 rfl rfl rfl ?_ | refine oK f2 rfl rfl rfl ?_ | refine oK c1 rfl rfl rfl ?_ | refine oK c2 rfl rfl rfl ?_ | refine oK c3 rfl rfl rfl ?_ | refine oK c4 rfl rfl rfl ?_ | refine oK c5 rfl rfl rfl ?_) | refine MvQ.stay ?_)
    all_goals first | exact absurd (by assumption) h0 | (refine rqK rfl ?_; (repeat' first | exact rfl | (refine qS ?_; constructor)))
  have hO := OnOk.of h0
  have c6 := C28 hO.b
  rw [h0] at c5
  by_cases hr : reB s t = true
  rotate_left
  · have hr : reB s t = false := by simpa using hr
    have eo : orE s t = 24 := by rw [orE, if_pos h0, if_neg (by rw [hr]; decide)]
    have eb : bdE s t p = 24 := by rw [bdE, eo]; rfl
    rw [eb, if_neg (by decide)] at c3
    rw [eo, if_neg (by decide), if_neg (by decide)] at c4
    rw [hr] at c6
    refine pi1 fn6 ?_
    (repeat' first | (refine Owe.same ?_; first | refine Owe.o ?_ | refine Owe.mk ?_ ?_) | (refine Fork.same ?_; (first | refine fkY ?_ | refine fkF ?_ | ((first | refine fkD ?_ ?_ | refine fkN ?_ ?_ | refine fkM ?_ ?_) <;> intro h))) | ((first | refine OpsL.same ?_ | refine OpsDL.same ?_); first | refine oK C8 rfl rfl rfl ?_ | refine oK f1 rfl rfl rfl ?_ | refine oK f2 rfl rfl rfl ?_ | refine oK c1 rfl rfl rfl ?_ | refine oK c2 rfl rfl rfl ?_ | refine oK c3 rfl rfl rfl ?_ | refine oK c4 rfl rfl rfl ?_ | refine oK c5 rfl rfl rfl ?_ | refine oK c6 rfl rfl rfl ?_) | refine MvQ.stay ?_)
    (refine rqK rfl ?_; (repeat' first | exact rfl | (refine qS ?_; constructor)))
  have eo : orE s t = 0 := by rw [orE, if_pos h0, if_pos hr]
  have eb : bdE s t p = prcE p := by rw [bdE, if_pos eo]
  rw [eb] at c3
  rw [eo, if_pos rfl, if_pos rfl] at c4
  rw [hr] at c6
  have c7 := C41 hO
  have c8 := C42 hp
  by_cases hz : prcE p = 0
  · have c9 := C43 (s := s) (t := t) (p := p) ⟨hO, prcE.ok hz⟩
    rw [if_pos hz, hz] at c3
    rw [hz] at c8
    generalize bdF s t (bpr s t) = A at *
    generalize bpr s t = B at *
    generalize bdF s t p = F at *
    refine pi1 fn6 ?_
    (repeat' first | (refine Owe.same ?_; first | refine Owe.o ?_ | refine Owe.mk ?_ ?_) | (refine Fork.same ?_; (first | refine fkY ?_ | refine fkF ?_ | ((first | refine fkD ?_ ?_ | refine fkN ?_ ?_ | refine fkM ?_ ?_) <;> intro h))) | ((first | refine OpsL.same ?_ | refine OpsDL.same ?_); first | refine oK C8 rfl rfl rfl ?_ | refine oK f1 rfl rfl rfl ?_ | refine oK f2 rfl rfl rfl ?_ | refine oK c1 rfl rfl rfl ?_ | refine oK c2 rfl rfl rfl ?_ | refine oK c3 rfl rfl rfl ?_ | refine oK c4 rfl rfl rfl ?_ | refine oK c5 rfl rfl rfl ?_ | refine oK c6 rfl rfl rfl ?_ | refine oK c7 rfl rfl rfl ?_ | refine oK c8 rfl rfl rfl ?_ | refine oK c9 rfl rfl rfl ?_) | refine MvQ.stay ?_)
    (refine rqK rfl ?_; (repeat' first | exact rfl | (refine qS ?_; constructor)))
    all_goals simp
  · rw [if_neg hz] at c3
    generalize prcE p = E at *
    generalize bdF s t (bpr s t) = A at *
    generalize bpr s t = B at *
    refine pi1 fn6 ?_
    (repeat' first | (refine Owe.same ?_; first | refine Owe.o ?_ | refine Owe.mk ?_ ?_) | (refine Fork.same ?_; (first | refine fkY ?_ | refine fkF ?_ | ((first | refine fkD ?_ ?_ | refine fkN ?_ ?_ | refine fkM ?_ ?_) <;> intro h))) | ((first | refine OpsL.same ?_ | refine OpsDL.same ?_); first | refine oK C8 rfl rfl rfl ?_ | refine oK f1 rfl rfl rfl ?_ | refine oK f2 rfl rfl rfl ?_ | refine oK c1 rfl rfl rfl ?_ | refine oK c2 rfl rfl rfl ?_ | refine oK c3 rfl rfl rfl ?_ | refine oK c4 rfl rfl rfl ?_ | refine oK c5 rfl rfl rfl ?_ | refine oK c6 rfl rfl rfl ?_ | refine oK c7 rfl rfl rfl ?_ | refine oK c8 rfl rfl rfl ?_) | refine MvQ.stay ?_)
    (refine rqK rfl ?_; (repeat' first | exact rfl | (refine qS ?_; constructor)))
    all_goals simp
end Go.Pw

namespace Go.Proofs.YtnimcgmgnmlfgaaGreat
open Go.ChangeShapes Go.WideShapes Go.ChangeAt Go.RowKit Go.Pw
theorem Tryz.own : ownKnob Tryz.prog.godebug = none := by kernel_rfl
theorem Tryz.laidOut : laidOutB Tryz.prog = true := by kernel_rfl
theorem shapes : shAll Tryz.prog [27, 29, 74] = some [(true, siSh), (true, stSh), (true, [.int .i64, .int .i64])] := by kernel_rfl
theorem law (args : List V) (h : ArgOk [(true, siSh), (true, stSh), (true, [.int .i64, .int .i64])] args) : PFD Tryz.prog 6 args (vbl true) := by
  match args, h with
  | [v0, v1, v2], ⟨h0, h1, h2, _⟩ =>
    obtain ⟨s0, r0, q0⟩ := arg_site h0
    obtain ⟨t1, r1, q1⟩ := arg_state h1
    obtain ⟨l2, rfl, q2⟩ := arg_pr h2
    exact PFD.ri (C6 ⟨w64_i q2.1, w64_i q2.2⟩) (.cons r0 (.cons r1 (.cons (RI.refl _) .nil)))
set_option maxRecDepth 100000 in
theorem lifted (os : Os) (started : os.Started) (H : Type) (enc : TypeId × Value → H) :
    ReturnsInHanded {} Tryz.checked os 6 .any (Rows.divePricesSpec.pre6 enc Tryz.prog Tryz.f6 Rows.divePricesRow.domain false) (Rows.divePricesSpec.post enc Tryz.prog Tryz.f6 false true false false) := by
  refine returnsInHanded_of_change (C := Tryz.checked) Tryz.own started (by kernel_rfl) Tryz.func6
    (ChangeSpec.witness6 (enc := enc) (C := Tryz.checked) false ⟨#[], #[.agg #[.slice none 0 0, .slice none 0 0, .slice none 0 0, .slice none 0 0, .int .i64 0, .int .i64 0, .int .i64 0, .int .i64 0], .agg #[.int .i64 0, .int .i64 0, .int .i64 0, .int .i64 0, .slice none 0 0], .agg #[.int .i64 0, .int .i64 0]], []⟩ 8 (by kernel_rfl) (by kernel_rfl) (by kernel_rfl) (by kernel_rfl)) ?_
  intro W base args ds gs before hval0 hW hcnd _
  exact law_calls (P := Tryz.prog) (F := Tryz.f6) (tb := 4) Tryz.laidOut (by rw [Tryz.params6]; exact shapes) rfl (fun ds hl => by
    rw [Tryz.params6] at hl
    match ds, hl with
    | [d0, d1, d2], _ => rfl) (by kernel_rfl) Tryz.underlying4 law W base args ds gs before hval0 hW
theorem row_holds : Rows.DivePricesSaid :=
  OpenClaim.holds_of_wide 6 Tryz.f6 rfl rfl rfl rfl rfl rfl rfl ⟨rfl, rfl, rfl, rfl, rfl⟩ rfl rfl rfl rfl rfl (by kernel_rfl) Tryz.func6 (by kernel_rfl)
    (of_decide_eq_true (by kernel_rfl)) (by unfold Func.isWrapper; rw [if_neg (by decide +kernel)]; exact ⟨rfl, rfl⟩)
    (fun os started H enc _ => lifted os started H enc)
end Go.Proofs.YtnimcgmgnmlfgaaGreat
