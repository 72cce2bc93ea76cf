/- Steps toward the row of this claim: part 5 of 6. Proved as named below, on no condition but those that each theorem states. -/
import Derived.Test.YtnimcgmgnmlfgaaGreatDiveBoundedD
import Derived.Test.YtnimcgmgnmlfgaaGreatProg
set_option linter.unusedSimpArgs false
set_option linter.unusedVariables false
set_option maxHeartbeats 4000000
namespace Go.Pw
set_option maxRecDepth 2000
open Go Go.Proofs A1 A2 A3 A4
theorem C98e : PFD Tryz.prog 98 [.c (.d (.sl 1 2 fun i => [[intsD []], [intsD []]].getD i []))] (.c (ints [])) := by
  refine pi1 fn98 ?_
  (repeat' first | (refine Owe.same ?_; first | refine Owe.o ?_ | refine Owe.mk ?_ ?_) | (refine Fork.same ?_; (first | refine fkD ?_ ?_ | refine fkN ?_ ?_ | refine fkM ?_ ?_) <;> intro h) | refine MvQ.stay ?_)
  refine Sat.lp0 (fun k : Nat => [(11, vi .i64 k), (10, vi .i64 2), (9, .c (.d (.sl 1 2 fun i => [[intsD []], [intsD []]].getD i []))), (0, .c (.d (.sl 1 2 fun i => [[intsD []], [intsD []]].getD i []))), (3, vi .i64 0)]) (fun k => k ≤ 2) (fun k => 2 - k) 0 (by decide) (by ((first | refine qen ?_ | refine qvs ?_ | refine qeq ?_ | refine qst ?_ | refine qv ?_ | refine qc ?_ | refine qe ?_ | refine qcs ?_ | skip); (repeat' first | exact rfl | (refine qS ?_; constructor)))) ?_
  intro k hk
  match k, hk with
  | 0, _ =>
    (repeat' first | (refine Owe.same ?_; first | refine Owe.o ?_ | refine Owe.mk ?_ ?_) | (refine Fork.same ?_; (first | refine fkY ?_ | refine fkF ?_ | ((first | refine fkD ?_ ?_ | refine fkN ?_ ?_ | refine fkM ?_ ?_) <;> intro h))) | ((first | refine OpsL.same ?_ | refine OpsDL.same ?_); first | refine oK C61 rfl rfl rfl ?_) | refine MvQ.stay ?_)
    refine again0 1 (by decide) (by decide) ?_
    ((first | refine qen ?_ | refine qvs ?_ | refine qeq ?_ | refine qst ?_ | refine qv ?_ | refine qc ?_ | refine qe ?_ | refine qcs ?_ | skip); (repeat' first | exact rfl | (refine qS ?_; constructor)))
  | 1, _ =>
    (repeat' first | (refine Owe.same ?_; first | refine Owe.o ?_ | refine Owe.mk ?_ ?_) | (refine Fork.same ?_; (first | refine fkY ?_ | refine fkF ?_ | ((first | refine fkD ?_ ?_ | refine fkN ?_ ?_ | refine fkM ?_ ?_) <;> intro h))) | ((first | refine OpsL.same ?_ | refine OpsDL.same ?_); first | refine oK C61 rfl rfl rfl ?_) | refine MvQ.stay ?_)
    refine again0 2 (by decide) (by decide) ?_
    ((first | refine qen ?_ | refine qvs ?_ | refine qeq ?_ | refine qst ?_ | refine qv ?_ | refine qc ?_ | refine qe ?_ | refine qcs ?_ | skip); (repeat' first | exact rfl | (refine qS ?_; constructor)))
  | 2, _ =>
    (repeat' first | (refine Owe.same ?_; first | refine Owe.o ?_ | refine Owe.mk ?_ ?_) | (refine Fork.same ?_; (first | refine fkY ?_ | refine fkF ?_ | ((first | refine fkD ?_ ?_ | refine fkN ?_ ?_ | refine fkM ?_ ?_) <;> intro h))) | ((first | refine OpsL.same ?_ | refine OpsDL.same ?_); first | refine oK C61 rfl rfl rfl ?_) | refine MvQ.stay ?_)
    refine Ops.cs rfl rfl (CallS.of fn121 rfl ?_)
    (repeat' first | (refine Owe.same ?_; first | refine Owe.o ?_ | refine Owe.mk ?_ ?_) | (refine Fork.same ?_; (first | refine fkY ?_ | refine fkF ?_ | ((first | refine fkD ?_ ?_ | refine fkN ?_ ?_ | refine fkM ?_ ?_) <;> intro h))) | ((first | refine OpsL.same ?_ | refine OpsDL.same ?_); first | refine oK C61 rfl rfl rfl ?_) | refine MvQ.stay ?_)
    (repeat' first | (refine Owe.same ?_; first | refine Owe.o ?_ | refine Owe.mk ?_ ?_) | (refine Fork.same ?_; (first | refine fkD ?_ ?_ | refine fkN ?_ ?_ | refine fkM ?_ ?_) <;> intro h) | refine MvQ.stay ?_)
    refine Sat.nilS 6 3 1 (fun i => r1 (([] : List Int).getD i 0)) rfl ?_
    refine Sat.lp (fun k : Nat => ⟨[(27, vi .i64 k), (26, vi .i64 2), (25, .c (.d (.sl 1 2 fun i => [[intsD []], [intsD []]].getD i []))), (6, .c (.ms 0 0))], [(0, rowv 3 1 r1 0 ([] : List Int))], 1⟩) (fun k : Nat => k ≤ 2) (fun k => 2 - k) 0 [0] (by decide) ?_ ?_
    · (refine qis ?_ ?_ <;> (repeat' first | exact rfl | (refine qS ?_; constructor)))
    · intro k hk
      match k, hk with
      | 0, _ =>
        (repeat' first | (refine Owe.same ?_; first | refine Owe.o ?_ | refine Owe.mk ?_ ?_) | (refine Fork.same ?_; (first | refine fkY ?_ | refine fkF ?_ | ((first | refine fkD ?_ ?_ | refine fkN ?_ ?_ | refine fkM ?_ ?_) <;> intro h))) | ((first | refine OpsL.same ?_ | refine OpsDL.same ?_); first | refine oK C61 rfl rfl rfl ?_) | refine MvQ.stay ?_)
        refine again 1 [1] (by decide) (by decide) ?_
        (refine qis ?_ ?_ <;> (repeat' first | exact rfl | (refine qS ?_; constructor)))
      | 1, _ =>
        (repeat' first | (refine Owe.same ?_; first | refine Owe.o ?_ | refine Owe.mk ?_ ?_) | (refine Fork.same ?_; (first | refine fkY ?_ | refine fkF ?_ | ((first | refine fkD ?_ ?_ | refine fkN ?_ ?_ | refine fkM ?_ ?_) <;> intro h))) | ((first | refine OpsL.same ?_ | refine OpsDL.same ?_); first | refine oK C61 rfl rfl rfl ?_) | refine MvQ.stay ?_)
        refine again 2 [1] (by decide) (by decide) ?_
        (refine qis ?_ ?_ <;> (repeat' first | exact rfl | (refine qS ?_; constructor)))
      | 2, _ =>
        (repeat' first | (refine Owe.same ?_; first | refine Owe.o ?_ | refine Owe.mk ?_ ?_) | (refine Fork.same ?_; (first | refine fkY ?_ | refine fkF ?_ | ((first | refine fkD ?_ ?_ | refine fkN ?_ ?_ | refine fkM ?_ ?_) <;> intro h))) | ((first | refine OpsL.same ?_ | refine OpsDL.same ?_); first | refine oK C61 rfl rfl rfl ?_) | refine MvQ.stay ?_)
        refine rqF 0 _ rfl rfl rfl ?_; (repeat' first | exact rfl | (refine qS ?_; constructor))
theorem C98 {a b : List Int} : (a.length ≤ 1000 ∧ b.length ≤ 1000) → PFD Tryz.prog 98 [.c (.d (.sl 1 2 fun i => [[intsD a], [intsD b]].getD i []))] (.c (ints (a ++ b))) := fun ⟨ha, hb⟩ => by
  by_cases h0 : 0 < (a.length : Int) + b.length
  · exact C98a ⟨ha, hb, h0⟩
  · obtain rfl : a = [] := List.eq_nil_of_length_eq_zero (by omega)
    obtain rfl : b = [] := List.eq_nil_of_length_eq_zero (by omega)
    exact C98e
/-- A list without its k-th number. -/
abbrev wo (l : List Int) (k : Nat) : List Int := l.take k ++ l.drop (k + 1)
theorem wo_len {l : List Int} {k : Nat} (h : k < l.length) : (wo l k).length + 1 = l.length := by simp [wo]; omega
theorem wo_mem {l : List Int} {k : Nat} {x : Int} (h : x ∈ wo l k) : x ∈ l := by
  rcases List.mem_append.1 h with h | h
  · exact List.mem_of_mem_take h
  · exact List.mem_of_mem_drop h
theorem wo_nd {l : List Int} {k : Nat} (h : l.Nodup) : (wo l k).Nodup := by
  have : (wo l k).Sublist l := by
    have h1 : (l.take k ++ l.drop (k + 1)).Sublist (l.take k ++ l.drop k) := (List.Sublist.refl _).append (List.drop_sublist_drop_left l (Nat.le_succ k))
    rwa [List.take_append_drop] at h1
  exact this.nodup h
theorem wo_not {l : List Int} {k : Nat} (h : l.Nodup) (hk : k < l.length) : l.getD k 0 ∉ wo l k := by
  have e : l = l.take k ++ l.getD k 0 :: l.drop (k + 1) := by
    rw [List.getD_eq_getElem?_getD, List.getElem?_eq_getElem hk]
    show l = l.take k ++ l[k] :: l.drop (k + 1)
    rw [← List.drop_eq_getElem_cons hk, List.take_append_drop]
  intro hm
  rw [e] at h
  have h2 := List.nodup_append.1 h
  rcases List.mem_append.1 hm with h1 | h1
  · exact h2.2.2 _ h1 _ (List.mem_cons_self ..) rfl
  · exact (List.nodup_cons.1 h2.2.1).1 h1
theorem C98w {l : List Int} {k : Nat} {f g : Nat → List D} (hf : ∀ i, i < k → f i = r1 (l.getD i 0)) (hg : ∀ i, k + 1 + i < l.length → g i = r1 (l.getD (k + 1 + i) 0)) {n m : Nat} (hn : n = k) (hm : m = l.length - (k + 1)) : (k < l.length ∧ l.length ≤ 1000) → PFD Tryz.prog 98 [.c (.d (.sl 1 2 fun i => [[.sl 1 n f], [.sl 1 m g]].getD i []))] (.c (ints (wo l k))) := fun ⟨hk, hl⟩ => by
  subst hn
  subst hm
  have c := C98 (a := l.take n) (b := l.drop (n + 1)) ⟨by rw [List.length_take]; omega, by rw [List.length_drop]; omega⟩
  refine PFD.ri c (.cons (RI.cI (DI.sl fun i hi => ?_)) .nil)
  match i, hi with
  | 0, _ =>
    refine .cons ?_ .nil
    have e : (l.take n).length = n := by rw [List.length_take]; omega
    show DI _ (.sl 1 (l.take n).length _)
    rw [e]
    refine DI.sl fun i hi => ?_
    have e2 : (l.take n).getD i 0 = l.getD i 0 := by simp only [List.getD_eq_getElem?_getD, List.getElem?_take, hi, if_true]
    rw [hf i hi, e2]
    exact DIs.refl _
  | 1, _ =>
    refine .cons ?_ .nil
    show DI _ (.sl 1 (l.drop (n + 1)).length _)
    rw [List.length_drop]
    refine DI.sl fun i hi => ?_
    have e2 : (l.drop (n + 1)).getD i 0 = l.getD (n + 1 + i) 0 := by simp only [List.getD_eq_getElem?_getD, List.getElem?_drop]
    rw [hg i (by omega), e2]
    exact DIs.refl _
theorem insI_mem {l : List Int} {i : Nat} {x y : Int} : y ∈ insI l i x ↔ y = x ∨ y ∈ l := by
  rw [insI, List.mem_append, List.mem_cons]
  conv => rhs; rw [← List.take_append_drop i l, List.mem_append]
  constructor
  · rintro (h | h | h)
    · exact .inr (.inl h)
    · exact .inl h
    · exact .inr (.inr h)
  · rintro (h | h | h)
    · exact .inr (.inl h)
    · exact .inl h
    · exact .inr (.inr h)
theorem nxS_ok {s : Si} {t : St8} {n : Int} (h : OnOk s t) (hn : 0 ≤ n ∧ n < s.tk.length) (hx : n ∉ t.d) (he : nxE s t n = 0) : OnOk s (nxS s t n) ∧ (nxS s t n).d.length = t.d.length + 1 ∧ ∀ m, m ∈ (nxS s t n).d ↔ m = n ∨ m ∈ t.d := by
  rw [nxE, nxF, fst3, unl0 (by decide), unl0 (by decide), unb_ok (by decide)] at he
  obtain ⟨a1, a2, a3⟩ := he
  have hB := (h.ok.t n.toNat (by omega)).b
  have hsw := trT_bd (p := (tkA s n).p) h
  have hD := nxT_b (n := n) h hB hsw
  have hm := hmT_bd hD
  have hr := of_decide_eq_true a3
  have h2 := h.tm
  have h3 := h.en
  have h4 := h.ok.e
  have h5 := h.oil
  have m1 : 0 ≤ hmT s (nxS s t n) * s.swim := Int.mul_nonneg hm.1 (by omega)
  obtain ⟨b5, b6, b7, b8, b9, b10⟩ := hB
  have m2 : 0 ≤ trT s t (tkA s n).p * s.swim := Int.mul_nonneg hsw.1 (by omega)
  have m3 : 0 ≤ (max (t.t + trT s t (tkA s n).p) (tkA s n).lo - (t.t + trT s t (tkA s n).p)) * s.idle := Int.mul_nonneg (by omega) (by omega)
  have hle := bsI_le n t.d
  obtain ⟨s1, s2⟩ := Srt.of h.d
  refine ⟨⟨h.ok, hD.pl, ?_, ?_, ?_, ?_⟩, insI_len hle, fun m => insI_mem⟩
  · have : (nxS s t n).t = max (t.t + trT s t (tkA s n).p) (tkA s n).lo + (tkA s n).d := rfl
    have key : (nxS s t n).t + hmT s (nxS s t n) ≤ s.fin := hr.2
    have hm0 : 0 ≤ hmT s (nxS s t n) := hm.1
    generalize hmT s (nxS s t n) = H at key hm0
    rw [this] at key ⊢
    clear hr hm hD a3 a2
    simp only [tkA] at *
    omega
  · have : (nxS s t n).w = t.w - (trT s t (tkA s n).p * s.swim + (max (t.t + trT s t (tkA s n).p) (tkA s n).lo - (t.t + trT s t (tkA s n).p)) * s.idle + (tkA s n).w) := rfl
    have key : s.res ≤ (nxS s t n).w - hmT s (nxS s t n) * s.swim := hr.1
    generalize hmT s (nxS s t n) * s.swim = H at key m1
    rw [this] at key ⊢
    clear hr hm hD a3 a2
    simp only [tkA] at *
    omega
  · have : (nxS s t n).o = t.o - (tkA s n).o := rfl
    have key : 0 ≤ (nxS s t n).o := a2
    rw [this] at key ⊢
    clear hr hm hD a3 a2
    simp only [tkA] at *
    omega
  · exact (insI_srt s1 hx).to (insI_bd hle s2 (by omega))
end Go.Pw

set_option linter.unusedSimpArgs false
set_option linter.unusedVariables false
set_option maxHeartbeats 4000000
namespace Go.Pw
set_option maxRecDepth 2000
open Go Go.Proofs A1 A2 A3 A4
/-- The task at an index of a set can be next: it waits for none of the others, and its step succeeds. -/
abbrev nowB (s : Si) (t : St8) (l : List Int) (k : Nat) : Bool := !((tkA s (l.getD k 0)).a.any fun m => decide (m ∈ wo l k)) && decide (nxE s t (l.getD k 0) = 0)
def togB (s : Si) : Nat → St8 → List Int → Bool
  | 0, _, l => decide (l = [])
  | f + 1, t, l => decide (l = []) || anyN (fun k => nowB s t l k && togB s f (nxS s t (l.getD k 0)) (wo l k)) l.length
/-- Numbers of tasks that are not done. -/
structure SetOk (s : Si) (t : St8) (l : List Int) : Prop where
  n : tkNs s l
  u : l.Nodup
  d : ∀ x ∈ l, x ∉ t.d
theorem SetOk.wo {s : Si} {t : St8} {l : List Int} {k : Nat} (h : SetOk s t l) (hk : k < l.length) (hd : ∀ m, m ∈ (nxS s t (l.getD k 0)).d ↔ m = l.getD k 0 ∨ m ∈ t.d) : SetOk s (nxS s t (l.getD k 0)) (wo l k) where
  n := fun i hi => by
    have hm := wo_mem (getD_mem 0 hi)
    obtain ⟨j, hj, e⟩ := List.getElem_of_mem hm
    have := h.n j hj
    rw [List.getD_eq_getElem?_getD, List.getElem?_eq_getElem hj] at this
    rw [← e]; exact this
  u := wo_nd h.u
  d := fun x hx => by
    rw [hd]
    rintro (e | e)
    · subst e; exact wo_not h.u hk hx
    · exact h.d x (wo_mem hx) e
theorem SetOk.len {s : Si} {t : St8} {l : List Int} (h : SetOk s t l) : l.length ≤ s.tk.length := by
  have : ∀ (N : Nat) (K : List Int), K.Nodup → (∀ a ∈ K, 0 ≤ a ∧ a < N) → K.length ≤ N := fun N => by
    induction N with
    | zero =>
      intro K _ hb
      have : K = [] := List.eq_nil_iff_forall_not_mem.2 fun a ha => by have := hb a ha; omega
      subst this; exact Nat.le_refl _
    | succ N ih =>
      intro K hn hb
      by_cases hm : (N : Int) ∈ K
      · have hl := List.length_erase_of_mem hm
        have hpos : 0 < K.length := List.length_pos_of_mem hm
        have := ih (K.erase (N : Int)) (hn.erase _) (fun a ha => by
          have h1 := (hn.mem_erase_iff).1 ha
          have := hb a h1.2
          have := h1.1
          omega)
        omega
      · have := ih K hn (fun a ha => by
          have := hb a ha
          have : a ≠ N := fun h => hm (h ▸ ha)
          omega)
        omega
  refine this _ l h.u fun a ha => ?_
  obtain ⟨j, hj, e⟩ := List.getElem_of_mem ha
  have := h.n j hj
  rw [List.getD_eq_getElem?_getD, List.getElem?_eq_getElem hj] at this
  rw [← e]; exact this
theorem C58 {s : Si} (hs : TkSm s.tk) : ∀ (f : Nat) {t : St8} {l : List Int}, OnOk s t → SetOk s t l → l.length ≤ f → PFD Tryz.prog 58 [div s t, .c (ints l)] (vbl (togB s f t l))
  | 0, t, l, h, hl, hf => by
    obtain rfl : l = [] := List.eq_nil_of_length_eq_zero (by omega)
    refine pi1 fn58 ?_
    (repeat' first | (refine Owe.same ?_; first | refine Owe.o ?_ | refine Owe.mk ?_ ?_) | (refine Fork.same ?_; (first | refine fkY ?_ | refine fkF ?_ | ((first | refine fkD ?_ ?_ | refine fkN ?_ ?_ | refine fkM ?_ ?_) <;> intro h))) | ((first | refine OpsL.same ?_ | refine OpsDL.same ?_); first | refine oK C75 rfl rfl rfl ?_) | refine MvQ.stay ?_)
    (refine rqK rfl ?_; (repeat' first | exact rfl | (refine qS ?_; constructor)))
  | f + 1, t, l, h, hl, hf => by
    have h6 := h.ok.n
    have hll := hl.len
    obtain ⟨q, hq⟩ : ∃ q, q = togB s (f + 1) t l := ⟨_, rfl⟩
    rw [← hq]
    rw [togB] at hq
    by_cases h0 : l = []
    · subst h0
      subst hq
      refine pi1 fn58 ?_
      (repeat' first | (refine Owe.same ?_; first | refine Owe.o ?_ | refine Owe.mk ?_ ?_) | (refine Fork.same ?_; (first | refine fkY ?_ | refine fkF ?_ | ((first | refine fkD ?_ ?_ | refine fkN ?_ ?_ | refine fkM ?_ ?_) <;> intro h))) | ((first | refine OpsL.same ?_ | refine OpsDL.same ?_); first | refine oK C75 rfl rfl rfl ?_) | refine MvQ.stay ?_)
      (refine rqK rfl ?_; (repeat' first | exact rfl | (refine qS ?_; constructor)))
    · have hpos := List.length_pos_iff.2 h0
      rw [decide_eq_false h0, Bool.false_or] at hq
      obtain ⟨F, hF⟩ : ∃ F, F = fun k => nowB s t l k && togB s f (nxS s t (l.getD k 0)) (wo l k) := ⟨_, rfl⟩
      rw [← hF] at hq
      refine pi1 fn58 ?_
      (repeat' first | (refine Owe.same ?_; first | refine Owe.o ?_ | refine Owe.mk ?_ ?_) | (refine Fork.same ?_; (first | refine fkY ?_ | refine fkF ?_ | ((first | refine fkD ?_ ?_ | refine fkN ?_ ?_ | refine fkM ?_ ?_) <;> intro h))) | ((first | refine OpsL.same ?_ | refine OpsDL.same ?_); first | refine oK C75 rfl rfl rfl ?_) | refine MvQ.stay ?_)
      refine Sat.lp0 (fun k : Nat => [(16, vi .i64 k), (15, vi .i64 l.length), (14, .c (ints l)), (1, .c (ints l)), (2, .c (.rp (diD s t)))]) (fun k => k ≤ l.length ∧ ∀ i, i < k → F i = false) (fun k => l.length - k) 0 ⟨Nat.zero_le _, fun i hi => by omega⟩ (by ((first | refine qen ?_ | refine qvs ?_ | refine qeq ?_ | refine qst ?_ | refine qv ?_ | refine qc ?_ | refine qe ?_ | refine qcs ?_ | skip); (repeat' first | exact rfl | (refine qS ?_; constructor)))) ?_
      intro k hk
      refine Fork.dec (fun hlt => ?_) (fun hlt => ?_)
      · have hlt : k < l.length := by omega
        have hn := hl.n k hlt
        have hFk : F k = (nowB s t l k && togB s f (nxS s t (l.getD k 0)) (wo l k)) := by rw [hF]
        have c1 := C98w (l := l) (k := k) (f := fun i => r1 (l.getD i 0)) (g := fun i => r1 (l.getD (k + 1 + i) 0)) (fun i _ => rfl) (fun i _ => rfl) rfl rfl ⟨hlt, by omega⟩
        (repeat' first | (refine Owe.same ?_; first | refine Owe.o ?_ | refine Owe.mk ?_ ?_) | (refine Fork.same ?_; (first | refine fkY ?_ | refine fkF ?_ | ((first | refine fkD ?_ ?_ | refine fkN ?_ ?_ | refine fkM ?_ ?_) <;> intro h))) | ((first | refine OpsL.same ?_ | refine OpsDL.same ?_); first | refine oK c1 rfl rfl rfl ?_) | refine MvQ.stay ?_)
        refine Ops.cs rfl rfl (CallS.of fn56 rfl ?_)
        (repeat' first | (refine Owe.same ?_; first | refine Owe.o ?_ | refine Owe.mk ?_ ?_) | (refine Fork.same ?_; (first | refine fkD ?_ ?_ | refine fkN ?_ ?_ | refine fkM ?_ ?_) <;> intro h) | refine MvQ.stay ?_)
        refine Ops.cs rfl rfl (CallS.of fn97 rfl ?_)
        (repeat' first | (refine Owe.same ?_; first | refine Owe.o ?_ | refine Owe.mk ?_ ?_) | (refine Fork.same ?_; (first | refine fkD ?_ ?_ | refine fkN ?_ ?_ | refine fkM ?_ ?_) <;> intro h) | refine MvQ.stay ?_)
        refine Sat.lp (fun j : Nat => ⟨[(8, vi .i64 j), (7, vi .i64 (tkA s (l.getD k 0)).a.length), (6, .c (ints (tkA s (l.getD k 0)).a)), (0, .c (ints (tkA s (l.getD k 0)).a)), (1, .c (.fn 99 [8]))], [(8, .box [ints (wo l k)])], 10⟩) (fun j => j ≤ (tkA s (l.getD k 0)).a.length ∧ ∀ i, i < j → decide ((tkA s (l.getD k 0)).a.getD i 0 ∈ wo l k) = false) (fun j => (tkA s (l.getD k 0)).a.length - j) 0 [] ⟨Nat.zero_le _, fun i hi => by omega⟩ ?_ ?_
        · (refine qis ?_ ?_ <;> (repeat' first | exact rfl | (refine qS ?_; constructor)))
        · intro j hj
          have hal : (tkA s (l.getD k 0)).a.length ≤ 1000000 := (hs (l.getD k 0).toNat (by omega)).2
          refine Fork.dec (fun hlj => ?_) (fun hlj => ?_)
          · have hlj : j < (tkA s (l.getD k 0)).a.length := by omega
            have c2 := C96 (l := wo l k) (n := (tkA s (l.getD k 0)).a.getD j 0) (by have := wo_len hlt; omega)
            (repeat' first | (refine Owe.same ?_; first | refine Owe.o ?_ | refine Owe.mk ?_ ?_) | (refine Fork.same ?_; (first | refine fkD ?_ ?_ | refine fkN ?_ ?_ | refine fkM ?_ ?_) <;> intro h) | refine MvQ.stay ?_)
            refine Ops.cs rfl rfl (CallS.of fn99 rfl ?_)
            (repeat' first | (refine Owe.same ?_; first | refine Owe.o ?_ | refine Owe.mk ?_ ?_) | (refine Fork.same ?_; (first | refine fkY ?_ | refine fkF ?_ | ((first | refine fkD ?_ ?_ | refine fkN ?_ ?_ | refine fkM ?_ ?_) <;> intro h))) | ((first | refine OpsL.same ?_ | refine OpsDL.same ?_); first | refine oK c2 rfl rfl rfl ?_) | refine MvQ.stay ?_)
            · have h : (tkA s (l.getD k 0)).a.getD j 0 ∈ wo l k := h
              have hw : (tkA s (l.getD k 0)).a.any (fun m => decide (m ∈ wo l k)) = true := List.any_eq_true.2 ⟨_, getD_mem 0 hlj, decide_eq_true h⟩
              rw [nowB, hw] at hFk
              exact again0 (k + 1) ⟨hlt, succ_all hk.2 hFk⟩ (by omega) (by ((first | refine qen ?_ | refine qvs ?_ | refine qeq ?_ | refine qst ?_ | refine qv ?_ | refine qc ?_ | refine qe ?_ | refine qcs ?_ | skip); (repeat' first | exact rfl | (refine qS ?_; constructor))))
            · have h : ¬ (tkA s (l.getD k 0)).a.getD j 0 ∈ wo l k := h
              refine again (j + 1) [] ⟨hlj, succ_all hj.2 (decide_eq_false h)⟩ (by omega) ?_
              (refine qis ?_ ?_ <;> (repeat' first | exact rfl | (refine qS ?_; constructor)))
          · have hjl : j = (tkA s (l.getD k 0)).a.length := by omega
            have hw : (tkA s (l.getD k 0)).a.any (fun m => decide (m ∈ wo l k)) = false := List.any_eq_false.2 fun x hx => by
              obtain ⟨i, hi, e⟩ := List.getElem_of_mem hx
              have := hj.2 i (by omega)
              rw [List.getD_eq_getElem?_getD, List.getElem?_eq_getElem hi] at this
              rw [← e]; simpa using this
            rw [nowB, hw] at hFk
            have hx : l.getD k 0 ∉ t.d := hl.d _ (getD_mem 0 hlt)
            have c3 := C100 (s := s) (t := t) (n := l.getD k 0) ⟨h, by have := h.dl; omega, hn⟩
            (repeat' first | (refine Owe.same ?_; first | refine Owe.o ?_ | refine Owe.mk ?_ ?_) | (refine Fork.same ?_; (first | refine fkY ?_ | refine fkF ?_ | ((first | refine fkD ?_ ?_ | refine fkN ?_ ?_ | refine fkM ?_ ?_) <;> intro h))) | ((first | refine OpsL.same ?_ | refine OpsDL.same ?_); first | refine oK C75 rfl rfl rfl ?_) | refine MvQ.stay ?_)
            by_cases hz : nxE s t (l.getD k 0) = 0
            · obtain ⟨h1, h2, h3⟩ := nxS_ok h hn hx hz
              have c4 := C58 hs f h1 (hl.wo hlt h3) (by have := wo_len hlt; omega)
              rw [decide_eq_true hz] at hFk
              rw [hz] at c3
              generalize nxS s t (l.getD k 0) = X at *
              generalize togB s f X (wo l k) = b at *
              (repeat' first | (refine Owe.same ?_; first | refine Owe.o ?_ | refine Owe.mk ?_ ?_) | (refine Fork.same ?_; (first | refine fkY ?_ | refine fkF ?_ | ((first | refine fkD ?_ ?_ | refine fkN ?_ ?_ | refine fkM ?_ ?_) <;> intro h))) | ((first | refine OpsL.same ?_ | refine OpsDL.same ?_); first | refine oK c3 rfl rfl rfl ?_) | refine MvQ.stay ?_)
              (repeat' first | (refine Owe.same ?_; first | refine Owe.o ?_ | refine Owe.mk ?_ ?_) | (refine Fork.same ?_; (first | refine fkY ?_ | refine fkF ?_ | ((first | refine fkD ?_ ?_ | refine fkN ?_ ?_ | refine fkM ?_ ?_) <;> intro h))) | ((first | refine OpsL.same ?_ | refine OpsDL.same ?_); first | refine oK c4 rfl rfl rfl ?_) | refine MvQ.stay ?_)
              · have hb : b = true := by simpa using h
                subst hb
                rw [anyN_t hlt hFk] at hq
                subst hq
                (refine rqK rfl ?_; (repeat' first | exact rfl | (refine qS ?_; constructor)))
              · have hb : b = false := by simpa using h
                subst hb
                exact again0 (k + 1) ⟨hlt, succ_all hk.2 hFk⟩ (by omega) (by ((first | refine qen ?_ | refine qvs ?_ | refine qeq ?_ | refine qst ?_ | refine qv ?_ | refine qc ?_ | refine qe ?_ | refine qcs ?_ | skip); (repeat' first | exact rfl | (refine qS ?_; constructor))))
            · rw [decide_eq_false hz] at hFk
              generalize nxE s t (l.getD k 0) = E at *
              (repeat' first | (refine Owe.same ?_; first | refine Owe.o ?_ | refine Owe.mk ?_ ?_) | (refine Fork.same ?_; (first | refine fkY ?_ | refine fkF ?_ | ((first | refine fkD ?_ ?_ | refine fkN ?_ ?_ | refine fkM ?_ ?_) <;> intro h))) | ((first | refine OpsL.same ?_ | refine OpsDL.same ?_); first | refine oK c3 rfl rfl rfl ?_) | refine MvQ.stay ?_)
              have hFk : F k = false := by rw [hFk]; simp
              exact again0 (k + 1) ⟨hlt, succ_all hk.2 hFk⟩ (by omega) (by ((first | refine qen ?_ | refine qvs ?_ | refine qeq ?_ | refine qst ?_ | refine qv ?_ | refine qc ?_ | refine qe ?_ | refine qcs ?_ | skip); (repeat' first | exact rfl | (refine qS ?_; constructor))))
      · have : k = l.length := by omega
        subst this
        rw [anyN_f.2 hk.2] at hq
        subst hq
        (repeat' first | (refine Owe.same ?_; first | refine Owe.o ?_ | refine Owe.mk ?_ ?_) | (refine Fork.same ?_; (first | refine fkD ?_ ?_ | refine fkN ?_ ?_ | refine fkM ?_ ?_) <;> intro h) | refine MvQ.stay ?_)
        (refine rqK rfl ?_; (repeat' first | exact rfl | (refine qS ?_; constructor)))
end Go.Pw

set_option linter.unusedSimpArgs false
set_option linter.unusedVariables false
set_option maxHeartbeats 4000000
namespace Go.Pw
set_option maxRecDepth 2000
open Go Go.Proofs A1 A2 A3 A4
theorem C26 {s : Si} {n : Int} : s.tk.length ≤ 1000000 → PFD Tryz.prog 26 [siv s, vi .i64 n] (vbl (wi n 0 ((s.tk.length : Int) - 1))) := fun hs => by
  refine pi1 fn26 ?_
  (repeat' first | (refine Owe.same ?_; first | refine Owe.o ?_ | refine Owe.mk ?_ ?_) | (refine Fork.same ?_; (first | refine fkD ?_ ?_ | refine fkN ?_ ?_ | refine fkM ?_ ?_) <;> intro h) | ((first | refine OpsL.same ?_ | refine OpsDL.same ?_); first | refine pK C75 rfl rfl ?_) | refine MvQ.stay ?_)
  (refine rqK rfl ?_; (repeat' first | exact rfl | (refine qS ?_; constructor)))
theorem C10 {t : St8} : PFD Tryz.prog 10 [stv t] (vbl (decide ((t.d.length : Int) ≤ 8))) := by
  refine pi1 fn10 ?_
  (repeat' first | (refine Owe.same ?_; first | refine Owe.o ?_ | refine Owe.mk ?_ ?_) | (refine Fork.same ?_; (first | refine fkD ?_ ?_ | refine fkN ?_ ?_ | refine fkM ?_ ?_) <;> intro h) | refine MvQ.stay ?_)
  (refine rqK rfl ?_; (repeat' first | exact rfl | (refine qS ?_; constructor)))
/-- The sizes of tasks are small. -/
abbrev fewT (l : List Tk) : Prop := (l.length : Int) ≤ 8 ∧ ∀ i, i < l.length → ((l.getD i tk0).n.size : Int) ≤ 20 ∧ ((l.getD i tk0).a.length : Int) ≤ 8
theorem C51 {l : List Tk} : PFD Tryz.prog 51 [.c (tks l)] (vbl (decide (fewT l))) := by
  refine pi1 fn51 ?_
  (repeat' first | (refine Owe.same ?_; first | refine Owe.o ?_ | refine Owe.mk ?_ ?_) | (refine Fork.same ?_; (first | refine fkD ?_ ?_ | refine fkN ?_ ?_ | refine fkM ?_ ?_) <;> intro h) | refine MvQ.stay ?_)
  · (refine rqK rfl ?_; (repeat' first | exact rfl | (refine qS ?_; constructor))); simp only [decide_eq_false_iff_not]; intro hh; exact absurd hh.1 (by omega)
  · have h8 : l.length ≤ 8 := by omega
    clear h
    refine Sat.lp0 (fun k : Nat => [(3, vi .i64 k), (0, .c (tks l))]) (fun k => k ≤ l.length ∧ ∀ i, i < k → ((l.getD i tk0).n.size : Int) ≤ 20 ∧ ((l.getD i tk0).a.length : Int) ≤ 8) (fun k => l.length - k) 0 ⟨Nat.zero_le _, fun i hi => by omega⟩ (by ((first | refine qen ?_ | refine qvs ?_ | refine qeq ?_ | refine qst ?_ | refine qv ?_ | refine qc ?_ | refine qe ?_ | refine qcs ?_ | skip); (repeat' first | exact rfl | (refine qS ?_; constructor)))) ?_
    intro k hk
    refine Fork.dec (fun hlt => ?_) (fun hlt => ?_)
    · have hlt : k < l.length := by omega
      (repeat' first | (refine Owe.same ?_; first | refine Owe.o ?_ | refine Owe.mk ?_ ?_) | (refine Fork.same ?_; (first | refine fkD ?_ ?_ | refine fkN ?_ ?_ | refine fkM ?_ ?_) <;> intro h) | refine MvQ.stay ?_)
      · (refine rqK rfl ?_; (repeat' first | exact rfl | (refine qS ?_; constructor))); simp only [decide_eq_false_iff_not]
        intro hh; have := (hh.2 k hlt).1; simp only [Int.toNat_natCast] at h; omega
      · (refine rqK rfl ?_; (repeat' first | exact rfl | (refine qS ?_; constructor))); simp only [decide_eq_false_iff_not]
        intro hh; have := (hh.2 k hlt).2; simp only [Int.toNat_natCast] at h; omega
      · rename_i h1
        simp only [Int.toNat_natCast] at h h1
        exact again0 (k + 1) ⟨hlt, succ_all hk.2 ⟨by omega, by omega⟩⟩ (by omega) (by ((first | refine qen ?_ | refine qvs ?_ | refine qeq ?_ | refine qst ?_ | refine qv ?_ | refine qc ?_ | refine qe ?_ | refine qcs ?_ | skip); (repeat' first | exact rfl | (refine qS ?_; constructor))))
    · have : k = l.length := by omega
      subst this
      (repeat' first | (refine Owe.same ?_; first | refine Owe.o ?_ | refine Owe.mk ?_ ?_) | (refine Fork.same ?_; (first | refine fkD ?_ ?_ | refine fkN ?_ ?_ | refine fkM ?_ ?_) <;> intro h) | refine MvQ.stay ?_)
      (refine rqK rfl ?_; (repeat' first | exact rfl | (refine qS ?_; constructor)))
      exact decide_eq_true ⟨by omega, hk.2⟩
/-- The sizes of a site are small. -/
structure Few (s : Si) : Prop where
  t : fewT s.tk
  h : (s.ho.length : Int) ≤ 7
  r : (s.tr.length : Int) ≤ 7
  i : (s.ti.length : Int) ≤ 8
  a : ∀ i, i < s.tr.length → ((s.tr.getD i []).length : Int) ≤ 7
abbrev fewP (s : Si) : Prop := fewT s.tk ∧ (s.ho.length : Int) ≤ 7 ∧ (s.tr.length : Int) ≤ 7 ∧ (s.ti.length : Int) ≤ 8 ∧ ∀ i, i < s.tr.length → ((s.tr.getD i []).length : Int) ≤ 7
theorem Few.of {s : Si} (h : fewP s) : Few s := ⟨h.1, h.2.1, h.2.2.1, h.2.2.2.1, h.2.2.2.2⟩
abbrev fewB (s : Si) : Bool := decide (fewP s)
theorem Few.sm {s : Si} (h : Few s) : SiSm s where
  tk := by have := h.t.1; omega
  t := fun i hi => by have := h.t.2 i hi; omega
  tr := by have := h.r; omega
  r := fun i hi => by have := h.a i hi; omega
  ho := by have := h.h; omega
  ti := by have := h.i; omega
theorem C9 {s : Si} : PFD Tryz.prog 9 [siv s] (vbl (fewB s)) := by
  have c1 := C51 (l := s.tk)
  by_cases hF : fewT s.tk ∧ (s.ho.length : Int) ≤ 7 ∧ (s.tr.length : Int) ≤ 7 ∧ (s.ti.length : Int) ≤ 8
  · obtain ⟨f1, f2, f3, f4⟩ := hF
    rw [decide_eq_true f1] at c1
    refine pi1 fn9 ?_
    (repeat' first | (refine Owe.same ?_; first | refine Owe.o ?_ | refine Owe.mk ?_ ?_) | (refine Fork.same ?_; (first | refine fkY ?_ | refine fkF ?_ | ((first | refine fkD ?_ ?_ | refine fkN ?_ ?_ | refine fkM ?_ ?_) <;> intro h))) | ((first | refine OpsL.same ?_ | refine OpsDL.same ?_); first | refine oK c1 rfl rfl rfl ?_) | refine MvQ.stay ?_)
    refine Sat.lp0 (fun k : Nat => [(3, vi .i64 k), (1, .c (.rp (siD s)))]) (fun k => k ≤ s.tr.length ∧ ∀ i, i < k → ((s.tr.getD i []).length : Int) ≤ 7) (fun k => s.tr.length - k) 0 ⟨Nat.zero_le _, fun i hi => by omega⟩ (by ((first | refine qen ?_ | refine qvs ?_ | refine qeq ?_ | refine qst ?_ | refine qv ?_ | refine qc ?_ | refine qe ?_ | refine qcs ?_ | skip); (repeat' first | exact rfl | (refine qS ?_; constructor)))) ?_
    intro k hk
    refine Fork.dec (fun hlt => ?_) (fun hlt => ?_)
    · have hlt : k < s.tr.length := by omega
      (repeat' first | (refine Owe.same ?_; first | refine Owe.o ?_ | refine Owe.mk ?_ ?_) | (refine Fork.same ?_; (first | refine fkD ?_ ?_ | refine fkN ?_ ?_ | refine fkM ?_ ?_) <;> intro h) | refine MvQ.stay ?_)
      · (refine rqK rfl ?_; (repeat' first | exact rfl | (refine qS ?_; constructor))); refine decide_eq_false fun hh => ?_
        have := hh.2.2.2.2 k hlt; simp only [Int.toNat_natCast] at h; omega
      · simp only [Int.toNat_natCast] at h
        exact again0 (k + 1) ⟨hlt, succ_all hk.2 (by omega)⟩ (by omega) (by ((first | refine qen ?_ | refine qvs ?_ | refine qeq ?_ | refine qst ?_ | refine qv ?_ | refine qc ?_ | refine qe ?_ | refine qcs ?_ | skip); (repeat' first | exact rfl | (refine qS ?_; constructor))))
    · have : k = s.tr.length := by omega
      subst this
      (repeat' first | (refine Owe.same ?_; first | refine Owe.o ?_ | refine Owe.mk ?_ ?_) | (refine Fork.same ?_; (first | refine fkD ?_ ?_ | refine fkN ?_ ?_ | refine fkM ?_ ?_) <;> intro h) | refine MvQ.stay ?_)
      (refine rqK rfl ?_; (repeat' first | exact rfl | (refine qS ?_; constructor)))
      exact decide_eq_true ⟨f1, f2, f3, f4, hk.2⟩
  · have e : fewB s = false := decide_eq_false fun hh => hF ⟨hh.1, hh.2.1, hh.2.2.1, hh.2.2.2.1⟩
    rw [e]
    by_cases f1 : fewT s.tk
    · rw [decide_eq_true f1] at c1
      by_cases f2 : (s.ho.length : Int) ≤ 7
      · by_cases f3 : (s.tr.length : Int) ≤ 7
        · have f4 : ¬ (s.ti.length : Int) ≤ 8 := fun f4 => hF ⟨f1, f2, f3, f4⟩
          refine pi1 fn9 ?_
          (repeat' first | (refine Owe.same ?_; first | refine Owe.o ?_ | refine Owe.mk ?_ ?_) | (refine Fork.same ?_; (first | refine fkY ?_ | refine fkF ?_ | ((first | refine fkD ?_ ?_ | refine fkN ?_ ?_ | refine fkM ?_ ?_) <;> intro h))) | ((first | refine OpsL.same ?_ | refine OpsDL.same ?_); first | refine oK c1 rfl rfl rfl ?_) | refine MvQ.stay ?_)
          (refine rqK rfl ?_; (repeat' first | exact rfl | (refine qS ?_; constructor)))
        · refine pi1 fn9 ?_
          (repeat' first | (refine Owe.same ?_; first | refine Owe.o ?_ | refine Owe.mk ?_ ?_) | (refine Fork.same ?_; (first | refine fkY ?_ | refine fkF ?_ | ((first | refine fkD ?_ ?_ | refine fkN ?_ ?_ | refine fkM ?_ ?_) <;> intro h))) | ((first | refine OpsL.same ?_ | refine OpsDL.same ?_); first | refine oK c1 rfl rfl rfl ?_) | refine MvQ.stay ?_)
          (refine rqK rfl ?_; (repeat' first | exact rfl | (refine qS ?_; constructor)))
      · refine pi1 fn9 ?_
        (repeat' first | (refine Owe.same ?_; first | refine Owe.o ?_ | refine Owe.mk ?_ ?_) | (refine Fork.same ?_; (first | refine fkY ?_ | refine fkF ?_ | ((first | refine fkD ?_ ?_ | refine fkN ?_ ?_ | refine fkM ?_ ?_) <;> intro h))) | ((first | refine OpsL.same ?_ | refine OpsDL.same ?_); first | refine oK c1 rfl rfl rfl ?_) | refine MvQ.stay ?_)
        (refine rqK rfl ?_; (repeat' first | exact rfl | (refine qS ?_; constructor)))
    · rw [decide_eq_false f1] at c1
      refine pi1 fn9 ?_
      (repeat' first | (refine Owe.same ?_; first | refine Owe.o ?_ | refine Owe.mk ?_ ?_) | (refine Fork.same ?_; (first | refine fkY ?_ | refine fkF ?_ | ((first | refine fkD ?_ ?_ | refine fkN ?_ ?_ | refine fkM ?_ ?_) <;> intro h))) | ((first | refine OpsL.same ?_ | refine OpsDL.same ?_); first | refine oK c1 rfl rfl rfl ?_) | refine MvQ.stay ?_)
      (refine rqK rfl ?_; (repeat' first | exact rfl | (refine qS ?_; constructor)))
end Go.Pw

set_option linter.unusedSimpArgs false
set_option linter.unusedVariables false
set_option maxHeartbeats 4000000
namespace Go.Pw
set_option maxRecDepth 2000
open Go Go.Proofs A1 A2 A3 A4
abbrev tkC (t : Tk) : List C := [str t.n, int t.p, int t.d, int t.w, int t.o, int t.v, int t.lo, int t.hi, ints t.a]
abbrev rgP (t : Tk) : Prop := ((0 ≤ t.p ∧ t.p ≤ 4) ∧ isN t.d ∧ isN t.w ∧ isN t.o ∧ isN t.v) ∧ isT t.lo ∧ isT t.hi
theorem odd4 {a b c d : Int} : oddI [a, b, c, d] = false ↔ isN a ∧ isN b ∧ isN c ∧ isN d := by
  simp [oddI]
theorem tkE_n {l : List Tk} {k : Nat} (h : ¬ nmP (l.getD k tk0).n) : tkE l k = 4 := by
  have e : tkF l k (l.getD k tk0) = 4 := by rw [tkF, unl, decide_eq_false h]; rfl
  rw [tkE, e]; rfl
theorem tkE_k {l : List Tk} {k : Nat} (h : nmP (l.getD k tk0).n) (h1 : knB l k (l.getD k tk0).n = true) : tkE l k = 5 := by
  have e : tkF l k (l.getD k tk0) = 5 := by rw [tkF, h1, unl, decide_eq_true h]; rfl
  rw [tkE, e]; rfl
theorem fst_00 {b : Bool} {x : Int} : fstE [0, 0, unb b 2, x] = if b = true then x else 2 := by
  cases b
  · rfl
  · show (if x = 0 then 0 else x) = x
    split
    · rename_i h; exact h.symm
    · rfl
theorem tksE_eq {lo hi : Int} : tksE lo hi = if isT lo ∧ isT hi then unl (lo ≤ hi) 9 else 2 := by
  rw [tksE]
  by_cases h : isT lo ∧ isT hi
  · rw [if_pos h, unl, decide_eq_true h]
    by_cases h1 : lo ≤ hi
    · rw [unl, decide_eq_true h1]; rfl
    · rw [unl, decide_eq_false h1]; rfl
  · rw [if_neg h, unl, decide_eq_false h]; rfl
theorem tkE_g {l : List Tk} {k : Nat} (h : nmP (l.getD k tk0).n) (h1 : knB l k (l.getD k tk0).n = false) : tkF l k (l.getD k tk0) = if rgP (l.getD k tk0) then unl ((l.getD k tk0).lo ≤ (l.getD k tk0).hi) 9 else 2 := by
  rw [tkF, h1, unl, decide_eq_true h]
  generalize l.getD k tk0 = t
  show fstE [0, 0, unb _ 2, _] = _
  rw [fst_00, tksE_eq]
  by_cases h2 : 0 ≤ t.p ∧ t.p ≤ 4
  · rcases ho : oddI [t.d, t.w, t.o, t.v] with _ | _
    · have h3 := odd4.1 ho
      rw [decide_eq_true h2, if_pos (show (true && !false) = true from rfl)]
      by_cases h4 : isT t.lo ∧ isT t.hi
      · rw [if_pos h4, if_pos ⟨⟨h2, h3⟩, h4⟩]
      · rw [if_neg h4, if_neg (fun hh => h4 hh.2)]
    · rw [if_neg (by simp), if_neg]
      rintro ⟨⟨_, h3⟩, _⟩
      rw [odd4.2 h3] at ho; cases ho
  · rw [decide_eq_false h2, if_neg (by simp), if_neg (fun hh => h2 hh.1.1)]
theorem tkE_r {l : List Tk} {k : Nat} (h : nmP (l.getD k tk0).n) (h1 : knB l k (l.getD k tk0).n = false) (h2 : ¬ rgP (l.getD k tk0)) : tkE l k = 2 := by
  have e := tkE_g h h1
  rw [if_neg h2] at e
  rw [tkE, e]; rfl
theorem tkE_o {l : List Tk} {k : Nat} (h : nmP (l.getD k tk0).n) (h1 : knB l k (l.getD k tk0).n = false) (h2 : rgP (l.getD k tk0)) (h3 : ¬ (l.getD k tk0).lo ≤ (l.getD k tk0).hi) : tkE l k = 9 := by
  have e := tkE_g h h1
  rw [if_pos h2, unl, decide_eq_false h3] at e
  rw [tkE, e]; rfl
theorem tkE_a {l : List Tk} {k : Nat} (h : nmP (l.getD k tk0).n) (h1 : knB l k (l.getD k tk0).n = false) (h2 : rgP (l.getD k tk0)) (h3 : (l.getD k tk0).lo ≤ (l.getD k tk0).hi) : tkE l k = (ascE (l.getD k tk0).a k).2 := by
  have e := tkE_g h h1
  rw [if_pos h2, unl, decide_eq_true h3] at e
  rw [tkE, e]; rfl
theorem ascN_6 {l : List Int} {b : Int} {j : Nat} (h : ¬ (0 ≤ l.getD j 0 ∧ l.getD j 0 ≤ b - 1)) : ascN l b j = 6 := by
  rw [ascN, unl, decide_eq_false h]; rfl
theorem ascN_9 {l : List Int} {b : Int} {j : Nat} (h : 0 ≤ l.getD j 0 ∧ l.getD j 0 ≤ b - 1) (hj : 0 < j) (h1 : l.getD j 0 ≤ l.getD (j - 1) 0) : ascN l b j = 9 := by
  rw [ascN, unl, decide_eq_true h, lastI, if_neg (by omega), unl, decide_eq_false (by omega)]; rfl
theorem ascN_0 {l : List Int} {b : Int} {j : Nat} (h : 0 ≤ l.getD j 0 ∧ l.getD j 0 ≤ b - 1) (h1 : 0 < j → l.getD (j - 1) 0 < l.getD j 0) : ascN l b j = 0 := by
  rw [ascN, fst2, unl0 (by decide), unl0 (by decide)]
  refine ⟨h, ?_⟩
  rw [lastI]
  split
  · omega
  · exact h1 (by omega)
theorem C114 {l : List Tk} : (l.length ≤ 1000000 ∧ TkSm l) → PFD Tryz.prog 114 [.c (tks l)] (.tup [vi .i64 (tsE l).1, vi .i64 (tsE l).2]) := fun ⟨hl, hs⟩ => by
  obtain ⟨q, hq⟩ : ∃ q, q = tsE l := ⟨_, rfl⟩
  rw [← hq]
  rw [tsE] at hq
  refine pi2 fn114 ?_
  (repeat' first | (refine Owe.same ?_; first | refine Owe.o ?_ | refine Owe.mk ?_ ?_) | (refine Fork.same ?_; (first | refine fkD ?_ ?_ | refine fkN ?_ ?_ | refine fkM ?_ ?_) <;> intro h) | refine MvQ.stay ?_)
  · rw [if_pos (by omega)] at hq; subst hq; (refine rqK rfl ?_; (repeat' first | exact rfl | (refine qS ?_; constructor)))
  · rw [if_neg (by omega)] at hq
    clear h
    have hret : ∀ {k}, k < l.length → (∀ i, i < k → tkE l i = 0) → ∀ {e}, tkE l k = e → ¬ e = 0 → q = ((k : Int), e) := fun hk h1 e he h2 => by
      have h3 := eachN_e hk h1 (by rw [he]; exact h2)
      rw [h3, he] at hq; exact hq
    refine Sat.lp0 (fun k : Nat => [(4, vi .i64 k), (0, .c (tks l))]) (fun k => k ≤ l.length ∧ ∀ i, i < k → tkE l i = 0) (fun k => l.length - k) 0 ⟨Nat.zero_le _, fun i hi => by omega⟩ (by ((first | refine qen ?_ | refine qvs ?_ | refine qeq ?_ | refine qst ?_ | refine qv ?_ | refine qc ?_ | refine qe ?_ | refine qcs ?_ | skip); (repeat' first | exact rfl | (refine qS ?_; constructor)))) ?_
    intro k hk
    refine Fork.dec (fun hlt => ?_) (fun hlt => ?_)
    · have hlt : k < l.length := by omega
      obtain ⟨s1, s2⟩ := hs k hlt
      have hret := fun {e} => @hret k hlt hk.2 e
      have c1 := C135 (s := (l.getD k tk0).n) s1
      (repeat' first | (refine Owe.same ?_; first | refine Owe.o ?_ | refine Owe.mk ?_ ?_) | (refine Fork.same ?_; (first | refine fkD ?_ ?_ | refine fkN ?_ ?_ | refine fkM ?_ ?_) <;> intro h) | ((first | refine OpsL.same ?_ | refine OpsDL.same ?_); first | refine pK c1 rfl rfl ?_) | refine MvQ.stay ?_)
      · have hx := hret (tkE_n (by simpa using h)) (by decide)
        subst hx; (refine rqK rfl ?_; (repeat' first | exact rfl | (refine qS ?_; constructor)))
      · have hn : nmP (l.getD k tk0).n := by simpa using h
        clear h
        refine Sat.lp (fun j : Nat => ⟨[(6, vi .i64 j), (5, .c (.bp 0 0)), (4, vi .i64 k), (0, .c (tks l))], [(0, .box (tkC (l.getD k tk0)))], 1⟩) (fun j => j ≤ k ∧ ∀ i, i < j → decide ((l.getD i tk0).n.data.toList = (l.getD k tk0).n.data.toList) = false) (fun j => k - j) 0 [0] ⟨Nat.zero_le _, fun i hi => by omega⟩ ?_ ?_
        · (refine qis ?_ ?_ <;> (repeat' first | exact rfl | (refine qS ?_; constructor)))
        · intro j hj
          refine Fork.dec (fun hlj => ?_) (fun hlj => ?_)
          · have hlj : j < k := by omega
            (repeat' first | (refine Owe.same ?_; first | refine Owe.o ?_ | refine Owe.mk ?_ ?_) | (refine Fork.same ?_; (first | refine fkD ?_ ?_ | refine fkN ?_ ?_ | refine fkM ?_ ?_) <;> intro h) | refine MvQ.stay ?_)
            · have h : (l.getD j tk0).n.data.toList = (l.getD k tk0).n.data.toList := h
              have hx := hret (tkE_k hn (anyN_t hlj (decide_eq_true h))) (by decide)
              subst hx; (refine rqK rfl ?_; (repeat' first | exact rfl | (refine qS ?_; constructor)))
            · have h : ¬ (l.getD j tk0).n.data.toList = (l.getD k tk0).n.data.toList := h
              refine again (j + 1) [0] ⟨hlj, succ_all hj.2 (decide_eq_false h)⟩ (by omega) ?_
              (refine qis ?_ ?_ <;> (repeat' first | exact rfl | (refine qS ?_; constructor)))
          · have : j = k := by omega
            subst this
            have hkn := anyN_f.2 hj.2
            have hr := tkE_r hn hkn
            have ho := tkE_o hn hkn
            have ha := tkE_a hn hkn
            (repeat' first | (refine Owe.same ?_; first | refine Owe.o ?_ | refine Owe.mk ?_ ?_) | (refine Fork.same ?_; (first | refine fkD ?_ ?_ | refine fkN ?_ ?_ | refine fkM ?_ ?_) <;> intro h) | ((first | refine OpsL.same ?_ | refine OpsDL.same ?_); first | refine pK C75 rfl rfl ?_ | refine pK C115 rfl rfl ?_ | refine pK C116 rfl rfl ?_) | refine MvQ.stay ?_)
            all_goals try (
              have hx := hret (hr (fun hh => by
                obtain ⟨⟨g1, g2, g3, g4, g5⟩, g6, g7⟩ := hh
                first | exact h g1 | exact h g2 | exact h g3 | exact h g4 | exact h g5 | exact h g6 | exact h g7)) (by decide)
              subst hx
              (refine rqK rfl ?_; (repeat' first | exact rfl | (refine qS ?_; constructor)))
              done)
            all_goals
              obtain ⟨g7, g6, g5, g4, g3, g2, g1⟩ := (show _ ∧ _ ∧ _ ∧ _ ∧ _ ∧ _ ∧ _ from ⟨by assumption, by assumption, by assumption, by assumption, by assumption, by assumption, by assumption⟩ : isT (l.getD j tk0).hi ∧ isT (l.getD j tk0).lo ∧ isN (l.getD j tk0).v ∧ isN (l.getD j tk0).o ∧ isN (l.getD j tk0).w ∧ isN (l.getD j tk0).d ∧ (0 ≤ (l.getD j tk0).p ∧ (l.getD j tk0).p ≤ 4))
              have hg : rgP (l.getD j tk0) := ⟨⟨g1, g2, g3, g4, g5⟩, g6, g7⟩
            · have h : (l.getD j tk0).hi < (l.getD j tk0).lo := h
              have hx := hret (ho hg (by omega)) (by decide)
              subst hx
              (refine rqK rfl ?_; (repeat' first | exact rfl | (refine qS ?_; constructor)))
            · have h : ¬ (l.getD j tk0).hi < (l.getD j tk0).lo := h
              have ha := ha hg (by omega)
              clear hr ho hj hkn hlj
              refine Sat.lp (fun m : Nat => ⟨[(7, vi .i64 m), (5, .c (.bp 0 0)), (4, vi .i64 j), (0, .c (tks l))], [(0, .box (tkC (l.getD j tk0)))], 1⟩) (fun m => m ≤ (l.getD j tk0).a.length ∧ ∀ i, i < m → ascN (l.getD j tk0).a j i = 0) (fun m => (l.getD j tk0).a.length - m) 0 [0] ⟨Nat.zero_le _, fun i hi => by omega⟩ ?_ ?_
              · (refine qis ?_ ?_ <;> (repeat' first | exact rfl | (refine qS ?_; constructor)))
              · intro m hm
                refine Fork.dec (fun hlm => ?_) (fun hlm => ?_)
                · have hlm : m < (l.getD j tk0).a.length := by omega
                  have hr : ∀ {e}, ascN (l.getD j tk0).a j m = e → ¬ e = 0 → q = ((j : Int), e) := fun he h2 => by
                    refine hret ?_ h2
                    rw [ha, ascE, eachN_e hlm hm.2 (by rw [he]; exact h2)]
                    exact he
                  (repeat' first | (refine Owe.same ?_; first | refine Owe.o ?_ | refine Owe.mk ?_ ?_) | (refine Fork.same ?_; (first | refine fkD ?_ ?_ | refine fkN ?_ ?_ | refine fkM ?_ ?_) <;> intro h) | ((first | refine OpsL.same ?_ | refine OpsDL.same ?_); first | refine pK C75 rfl rfl ?_) | refine MvQ.stay ?_)
                  · have hx := hr (ascN_6 h) (by decide)
                    subst hx
                    (refine rqK rfl ?_; (repeat' first | exact rfl | (refine qS ?_; constructor)))
                  · have hx := hr (ascN_9 ‹_› (by omega) (by rw [show m - 1 = ((m : Int) - 1).toNat by omega]; exact h)) (by decide)
                    subst hx
                    (refine rqK rfl ?_; (repeat' first | exact rfl | (refine qS ?_; constructor)))
                  · have h0 := ascN_0 (l := (l.getD j tk0).a) (b := j) (j := m) ‹_› (fun _ => by
                      have h : ¬ (l.getD j tk0).a.getD m 0 ≤ (l.getD j tk0).a.getD ((m : Int) - 1).toNat 0 := h
                      rw [show m - 1 = ((m : Int) - 1).toNat by omega]; omega)
                    refine again (m + 1) [0] ⟨hlm, succ_all hm.2 h0⟩ (by omega) ?_
                    (refine qis ?_ ?_ <;> (repeat' first | exact rfl | (refine qS ?_; constructor)))
                  · have h0 := ascN_0 (l := (l.getD j tk0).a) (b := j) (j := m) ‹_› (fun hh => by omega)
                    refine again (m + 1) [0] ⟨hlm, succ_all hm.2 h0⟩ (by omega) ?_
                    (refine qis ?_ ?_ <;> (repeat' first | exact rfl | (refine qS ?_; constructor)))
                · have : m = (l.getD j tk0).a.length := by omega
                  subst this
                  rw [ascE, eachN_z hm.2] at ha
                  (repeat' first | (refine Owe.same ?_; first | refine Owe.o ?_ | refine Owe.mk ?_ ?_) | (refine Fork.same ?_; (first | refine fkD ?_ ?_ | refine fkN ?_ ?_ | refine fkM ?_ ?_) <;> intro h) | refine MvQ.stay ?_)
                  exact again0 (j + 1) ⟨hlt, succ_all hk.2 ha⟩ (by omega) (by ((first | refine qen ?_ | refine qvs ?_ | refine qeq ?_ | refine qst ?_ | refine qv ?_ | refine qc ?_ | refine qe ?_ | refine qcs ?_ | skip); (repeat' first | exact rfl | (refine qS ?_; constructor))))
    · have : k = l.length := by omega
      subst this
      rw [eachN_z hk.2] at hq
      subst hq
      (repeat' first | (refine Owe.same ?_; first | refine Owe.o ?_ | refine Owe.mk ?_ ?_) | (refine Fork.same ?_; (first | refine fkD ?_ ?_ | refine fkN ?_ ?_ | refine fkM ?_ ?_) <;> intro h) | refine MvQ.stay ?_)
      (refine rqK rfl ?_; (repeat' first | exact rfl | (refine qS ?_; constructor)))
end Go.Pw

set_option linter.unusedSimpArgs false
set_option linter.unusedVariables false
set_option maxHeartbeats 4000000
namespace Go.Pw
set_option maxRecDepth 2000
open Go Go.Proofs A1 A2 A3 A4
theorem hm_1 {s : Si} {i : Nat} (h : ¬ isN (s.ho.getD i 0)) : hmN s i = 2 := by
  rw [hmN, unl, decide_eq_false h]; rfl
theorem hm_2 {s : Si} {i : Nat} (h : isN (s.ho.getD i 0)) (h1 : ¬ ((s.tr.getD i []).length : Int) = s.ho.length) : hmN s i = 10 := by
  rw [hmN, unl, decide_eq_true h, unl, decide_eq_false h1]; rfl
theorem hm_3 {s : Si} {i j : Nat} (h : isN (s.ho.getD i 0)) (h1 : ((s.tr.getD i []).length : Int) = s.ho.length) (hj : j < s.ho.length) (h2 : ¬ isN ((s.tr.getD i []).getD j 0) ∨ (i = j ∧ (s.tr.getD i []).getD j 0 ≠ 0)) : hmN s i = 2 := by
  have hb : hmB s i = false := by
    rcases h2 with h2 | ⟨rfl, h2⟩
    · have : oddI (s.tr.getD i []) = true := List.any_eq_true.2 ⟨_, getD_mem 0 (show j < (s.tr.getD i []).length by omega), by rw [decide_eq_false h2]; rfl⟩
      rw [hmB, this]; rfl
    · rw [hmB, decide_eq_false (by omega), decide_eq_false h2]; simp
  rw [hmN, hb, unl, decide_eq_true h, unl, decide_eq_true h1]; rfl
theorem hm_0 {s : Si} {i : Nat} (h : isN (s.ho.getD i 0)) (h1 : ((s.tr.getD i []).length : Int) = s.ho.length) (h2 : ∀ j, j < s.ho.length → isN ((s.tr.getD i []).getD j 0) ∧ (i = j → (s.tr.getD i []).getD j 0 = 0)) (hi : i < s.ho.length) : hmN s i = 0 := by
  have hb : hmB s i = true := by
    have : oddI (s.tr.getD i []) = false := List.any_eq_false.2 fun x hx => by
      obtain ⟨j, hj, rfl⟩ := List.getElem_of_mem hx
      have := (h2 j (by omega)).1
      rw [List.getD_eq_getElem?_getD, List.getElem?_eq_getElem hj] at this
      simpa using this
    rw [hmB, this, decide_eq_true ((h2 i hi).2 rfl)]; simp
  rw [hmN, hb, unl, decide_eq_true h, unl, decide_eq_true h1]; rfl
theorem ti_2 {s : Si} {i : Nat} (h : ¬ ((isT (s.ti.getD i (0, 0, 0)).1 ∧ isT (s.ti.getD i (0, 0, 0)).2.1) ∧ isN (s.ti.getD i (0, 0, 0)).2.2)) : tiN s i = 2 := by
  rw [tiN, tiF, unl, decide_eq_false h]; rfl
theorem ti_9 {s : Si} {i : Nat} (h : (isT (s.ti.getD i (0, 0, 0)).1 ∧ isT (s.ti.getD i (0, 0, 0)).2.1) ∧ isN (s.ti.getD i (0, 0, 0)).2.2) (h1 : ¬ ((s.ti.getD i (0, 0, 0)).1 ≤ (s.ti.getD i (0, 0, 0)).2.1 ∧ lastT s i < (s.ti.getD i (0, 0, 0)).1)) : tiN s i = 9 := by
  rw [tiN, tiF, unl, decide_eq_true h, unl, decide_eq_false h1]; rfl
theorem ti_0 {s : Si} {i : Nat} (h : (isT (s.ti.getD i (0, 0, 0)).1 ∧ isT (s.ti.getD i (0, 0, 0)).2.1) ∧ isN (s.ti.getD i (0, 0, 0)).2.2) (h1 : (s.ti.getD i (0, 0, 0)).1 ≤ (s.ti.getD i (0, 0, 0)).2.1 ∧ lastT s i < (s.ti.getD i (0, 0, 0)).1) : tiN s i = 0 := by
  rw [tiN, tiF, unl, decide_eq_true h, unl, decide_eq_true h1]; rfl
theorem lastT_of {s : Si} {i : Nat} {x : Int} (h : 0 ≤ x) : lastT s i < x ↔ ¬ (0 < i ∧ x ≤ (s.ti.getD (i - 1) (0, 0, 0)).2.1) := by
  rw [lastT]
  split <;> omega
theorem C74 {s : Si} : SiSm s → PFD Tryz.prog 74 [siv s] (.tup [vi .i64 (siE s).1, vi .i64 (siE s).2]) := fun hs => by
  obtain ⟨stk, st, str, sr, sho, sti⟩ := hs
  obtain ⟨q, hq⟩ : ∃ q, q = siE s := ⟨_, rfl⟩
  rw [← hq]
  rw [siE] at hq
  have c1 := C114 (l := s.tk) ⟨stk, st⟩
  refine pi2 fn74 ?_
  (repeat' first | (refine Owe.same ?_; first | refine Owe.o ?_ | refine Owe.mk ?_ ?_) | (refine Fork.same ?_; (first | refine fkD ?_ ?_ | refine fkN ?_ ?_ | refine fkM ?_ ?_) <;> intro h) | ((first | refine OpsL.same ?_ | refine OpsDL.same ?_); first | refine pK c1 rfl rfl ?_) | refine MvQ.stay ?_)
  · rw [if_neg h] at hq; subst hq; (refine rqK rfl ?_; (repeat' first | exact rfl | (refine qS ?_; constructor)))
  · rename_i h0
    have e : hoE s = 10 := by rw [hoE, unl, decide_eq_false (by omega)]; rfl
    rw [if_pos h0, if_neg (by rw [e]; decide), e] at hq
    subst hq; (refine rqK rfl ?_; (repeat' first | exact rfl | (refine qS ?_; constructor)))
  · rename_i h0 h1
    have e : hoE s = 8 := by rw [hoE, unl, decide_eq_true (show (s.ho.length : Int) > 0 by omega), unl, decide_eq_false (by omega)]; rfl
    rw [if_pos h0, if_neg (by rw [e]; decide), e] at hq
    subst hq; (refine rqK rfl ?_; (repeat' first | exact rfl | (refine qS ?_; constructor)))
  · rename_i h0 h1 h2
    have e : hoE s = 10 := by rw [hoE, unl, decide_eq_true (show (s.ho.length : Int) > 0 by omega), unl, decide_eq_true (by omega), unl, decide_eq_false (by omega)]; rfl
    rw [if_pos h0, if_neg (by rw [e]; decide), e] at hq
    subst hq; (refine rqK rfl ?_; (repeat' first | exact rfl | (refine qS ?_; constructor)))
  · rename_i h0 h1 h2
    have e : hoE s = 0 := by rw [hoE, unl, decide_eq_true (show (s.ho.length : Int) > 0 by omega), unl, decide_eq_true (by omega), unl, decide_eq_true (by omega)]; rfl
    rw [if_pos h0, if_pos e] at hq
    have hret : ∀ {k}, k < s.ho.length → (∀ i, i < k → hmN s i = 0) → ∀ {e}, hmN s k = e → ¬ e = 0 → q = ((k : Int), e) := fun hk h1 e he h2 => by
      have e := eachN_e hk h1 (by rw [he]; exact h2)
      rw [if_neg (by rw [e, he]; exact h2), e, he] at hq; exact hq
    refine Sat.lp0 (fun k : Nat => [(6, vi .i64 k), (1, .c (.rp (siD s)))]) (fun k => k ≤ s.ho.length ∧ ∀ i, i < k → hmN s i = 0) (fun k => s.ho.length - k) 0 ⟨Nat.zero_le _, fun i hi => by omega⟩ (by ((first | refine qen ?_ | refine qvs ?_ | refine qeq ?_ | refine qst ?_ | refine qv ?_ | refine qc ?_ | refine qe ?_ | refine qcs ?_ | skip); (repeat' first | exact rfl | (refine qS ?_; constructor)))) ?_
    intro k hk
    refine Fork.dec (fun hlt => ?_) (fun hlt => ?_)
    · have hlt : k < s.ho.length := by omega
      have hret := fun {e} => @hret k hlt hk.2 e
      (repeat' first | (refine Owe.same ?_; first | refine Owe.o ?_ | refine Owe.mk ?_ ?_) | (refine Fork.same ?_; (first | refine fkD ?_ ?_ | refine fkN ?_ ?_ | refine fkM ?_ ?_) <;> intro h) | ((first | refine OpsL.same ?_ | refine OpsDL.same ?_); first | refine pK C115 rfl rfl ?_) | refine MvQ.stay ?_)
      · have h : ¬ isN (s.ho.getD k 0) := by simpa using h
        have hx := hret (hm_1 h) (by decide)
        subst hx; (refine rqK rfl ?_; (repeat' first | exact rfl | (refine qS ?_; constructor)))
      · rename_i h3
        have h3 : isN (s.ho.getD k 0) := by simpa using h3
        simp only [Int.toNat_natCast] at h
        have hx := hret (hm_2 h3 h) (by decide)
        subst hx; (refine rqK rfl ?_; (repeat' first | exact rfl | (refine qS ?_; constructor)))
      · rename_i h3
        have h3 : isN (s.ho.getD k 0) := by simpa using h3
        simp only [Int.toNat_natCast] at h
        have h4 : ((s.tr.getD k []).length : Int) = s.ho.length := by simpa using h
        clear h
        refine Sat.lp0 (fun j : Nat => [(7, vi .i64 j), (6, vi .i64 k), (1, .c (.rp (siD s)))]) (fun j => j ≤ s.ho.length ∧ ∀ i, i < j → isN ((s.tr.getD k []).getD i 0) ∧ (k = i → (s.tr.getD k []).getD i 0 = 0)) (fun j => s.ho.length - j) 0 ⟨Nat.zero_le _, fun i hi => by omega⟩ (by ((first | refine qen ?_ | refine qvs ?_ | refine qeq ?_ | refine qst ?_ | refine qv ?_ | refine qc ?_ | refine qe ?_ | refine qcs ?_ | skip); (repeat' first | exact rfl | (refine qS ?_; constructor)))) ?_
        intro j hj
        refine Fork.dec (fun hlj => ?_) (fun hlj => ?_)
        · have hlj : j < s.ho.length := by omega
          have hr := fun h => hret (hm_3 h3 h4 hlj h) (by decide)
          (repeat' first | (refine Owe.same ?_; first | refine Owe.o ?_ | refine Owe.mk ?_ ?_) | (refine Fork.same ?_; (first | refine fkD ?_ ?_ | refine fkN ?_ ?_ | refine fkM ?_ ?_) <;> intro h) | ((first | refine OpsL.same ?_ | refine OpsDL.same ?_); first | refine pK C115 rfl rfl ?_) | refine MvQ.stay ?_)
          · have hx := hr (.inl h)
            subst hx
            (refine rqK rfl ?_; (repeat' first | exact rfl | (refine qS ?_; constructor)))
          · rename_i g1 g2
            have hx := hr (.inr ⟨by omega, h⟩)
            subst hx
            (refine rqK rfl ?_; (repeat' first | exact rfl | (refine qS ?_; constructor)))
          · rename_i g1 g2
            exact again0 (j + 1) ⟨hlj, succ_all hj.2 ⟨g1, fun _ => h⟩⟩ (by omega) (by ((first | refine qen ?_ | refine qvs ?_ | refine qeq ?_ | refine qst ?_ | refine qv ?_ | refine qc ?_ | refine qe ?_ | refine qcs ?_ | skip); (repeat' first | exact rfl | (refine qS ?_; constructor))))
          · rename_i g1
            exact again0 (j + 1) ⟨hlj, succ_all hj.2 ⟨g1, fun e => absurd (show (k : Int) = j by omega) h⟩⟩ (by omega) (by ((first | refine qen ?_ | refine qvs ?_ | refine qeq ?_ | refine qst ?_ | refine qv ?_ | refine qc ?_ | refine qe ?_ | refine qcs ?_ | skip); (repeat' first | exact rfl | (refine qS ?_; constructor))))
        · have : j = s.ho.length := by omega
          subst this
          (repeat' first | (refine Owe.same ?_; first | refine Owe.o ?_ | refine Owe.mk ?_ ?_) | (refine Fork.same ?_; (first | refine fkD ?_ ?_ | refine fkN ?_ ?_ | refine fkM ?_ ?_) <;> intro h) | refine MvQ.stay ?_)
          exact again0 (k + 1) ⟨hlt, succ_all hk.2 (hm_0 h3 h4 hj.2 hlt)⟩ (by omega) (by ((first | refine qen ?_ | refine qvs ?_ | refine qeq ?_ | refine qst ?_ | refine qv ?_ | refine qc ?_ | refine qe ?_ | refine qcs ?_ | skip); (repeat' first | exact rfl | (refine qS ?_; constructor))))
    · have : k = s.ho.length := by omega
      subst this
      rw [if_pos (eachN_ok.2 hk.2)] at hq
      clear hret hk hlt
      have hret : ∀ {k}, k < s.tk.length → (∀ i, i < k → plN s i = 0) → ∀ {e}, plN s k = e → ¬ e = 0 → q = ((k : Int), e) := fun hk h1 e he h2 => by
        have e := eachN_e hk h1 (by rw [he]; exact h2)
        rw [if_neg (by rw [e, he]; exact h2), e, he] at hq; exact hq
      (repeat' first | (refine Owe.same ?_; first | refine Owe.o ?_ | refine Owe.mk ?_ ?_) | (refine Fork.same ?_; (first | refine fkD ?_ ?_ | refine fkN ?_ ?_ | refine fkM ?_ ?_) <;> intro h) | refine MvQ.stay ?_)
      refine Sat.lp0 (fun k : Nat => [(8, vi .i64 k), (1, .c (.rp (siD s)))]) (fun k => k ≤ s.tk.length ∧ ∀ i, i < k → plN s i = 0) (fun k => s.tk.length - k) 0 ⟨Nat.zero_le _, fun i hi => by omega⟩ (by ((first | refine qen ?_ | refine qvs ?_ | refine qeq ?_ | refine qst ?_ | refine qv ?_ | refine qc ?_ | refine qe ?_ | refine qcs ?_ | skip); (repeat' first | exact rfl | (refine qS ?_; constructor)))) ?_
      intro k hk
      refine Fork.dec (fun hlt => ?_) (fun hlt => ?_)
      · have hlt : k < s.tk.length := by omega
        (repeat' first | (refine Owe.same ?_; first | refine Owe.o ?_ | refine Owe.mk ?_ ?_) | (refine Fork.same ?_; (first | refine fkD ?_ ?_ | refine fkN ?_ ?_ | refine fkM ?_ ?_) <;> intro h) | refine MvQ.stay ?_)
        · have h : (s.ho.length : Int) ≤ (s.tk.getD k tk0).p := h
          have hx := hret hlt hk.2 (e := 6) (by rw [plN, unl, decide_eq_false (by omega)]; rfl) (by decide)
          subst hx
          (refine rqK rfl ?_; (repeat' first | exact rfl | (refine qS ?_; constructor)))
        · have h : ¬ (s.ho.length : Int) ≤ (s.tk.getD k tk0).p := h
          exact again0 (k + 1) ⟨hlt, succ_all hk.2 (by rw [plN, unl, decide_eq_true (by omega)]; rfl)⟩ (by omega) (by ((first | refine qen ?_ | refine qvs ?_ | refine qeq ?_ | refine qst ?_ | refine qv ?_ | refine qc ?_ | refine qe ?_ | refine qcs ?_ | skip); (repeat' first | exact rfl | (refine qS ?_; constructor))))
      · have : k = s.tk.length := by omega
        subst this
        rw [if_pos (eachN_ok.2 hk.2)] at hq
        clear hret hk hlt
        (repeat' first | (refine Owe.same ?_; first | refine Owe.o ?_ | refine Owe.mk ?_ ?_) | (refine Fork.same ?_; (first | refine fkD ?_ ?_ | refine fkN ?_ ?_ | refine fkM ?_ ?_) <;> intro h) | refine MvQ.stay ?_)
        · rw [if_pos h] at hq; subst hq; (refine rqK rfl ?_; (repeat' first | exact rfl | (refine qS ?_; constructor)))
        · rw [if_neg h] at hq
          have hret : ∀ {k}, k < s.ti.length → (∀ i, i < k → tiN s i = 0) → ∀ {e}, tiN s k = e → ¬ e = 0 → q = ((k : Int), e) := fun hk h1 e he h2 => by
            have e := eachN_e hk h1 (by rw [he]; exact h2)
            rw [if_neg (by rw [e, he]; exact h2), e, he] at hq; exact hq
          refine Sat.lp0 (fun k : Nat => [(9, vi .i64 k), (1, .c (.rp (siD s)))]) (fun k => k ≤ s.ti.length ∧ ∀ i, i < k → tiN s i = 0) (fun k => s.ti.length - k) 0 ⟨Nat.zero_le _, fun i hi => by omega⟩ (by ((first | refine qen ?_ | refine qvs ?_ | refine qeq ?_ | refine qst ?_ | refine qv ?_ | refine qc ?_ | refine qe ?_ | refine qcs ?_ | skip); (repeat' first | exact rfl | (refine qS ?_; constructor)))) ?_
          intro k hk
          refine Fork.dec (fun hlt => ?_) (fun hlt => ?_)
          · have hlt : k < s.ti.length := by omega
            have hret := fun {e} => @hret k hlt hk.2 e
            have h2 := fun h => hret (ti_2 h) (by decide)
            have h9 := fun h h' => hret (ti_9 h h') (by decide)
            have h0 := fun h h' => ti_0 (s := s) (i := k) h h'
            have hla := fun h => lastT_of (s := s) (i := k) (x := (s.ti.getD k (0, 0, 0)).1) h
            (repeat' first | (refine Owe.same ?_; first | refine Owe.o ?_ | refine Owe.mk ?_ ?_) | (refine Fork.same ?_; (first | refine fkD ?_ ?_ | refine fkN ?_ ?_ | refine fkM ?_ ?_) <;> intro h) | ((first | refine OpsL.same ?_ | refine OpsDL.same ?_); first | refine pK C116 rfl rfl ?_ | refine pK C115 rfl rfl ?_) | refine MvQ.stay ?_)
            · have hx := h2 (fun hh => h hh.1.1)
              subst hx
              (refine rqK rfl ?_; (repeat' first | exact rfl | (refine qS ?_; constructor)))
            · have hx := h2 (fun hh => h hh.1.2)
              subst hx
              (refine rqK rfl ?_; (repeat' first | exact rfl | (refine qS ?_; constructor)))
            · have hx := h2 (fun hh => h hh.2)
              subst hx
              (refine rqK rfl ?_; (repeat' first | exact rfl | (refine qS ?_; constructor)))
            · have h : (s.ti.getD k (0, 0, 0)).2.1 < (s.ti.getD k (0, 0, 0)).1 := h
              have hx := h9 ⟨⟨‹_›, ‹_›⟩, ‹_›⟩ (fun hh => by omega)
              subst hx
              (refine rqK rfl ?_; (repeat' first | exact rfl | (refine qS ?_; constructor)))
            · rename_i g1 g2 g3 g4 g5
              have h : (s.ti.getD k (0, 0, 0)).1 ≤ (s.ti.getD ((k : Int) - 1).toNat (0, 0, 0)).2.1 := h
              rw [show ((k : Int) - 1).toNat = k - 1 by omega] at h
              have hx := h9 ⟨⟨g1, g2⟩, g3⟩ (fun hh => (hla g1.1).1 hh.2 ⟨by omega, h⟩)
              subst hx
              (refine rqK rfl ?_; (repeat' first | exact rfl | (refine qS ?_; constructor)))
            · rename_i g1 g2 g3 g4 g5
              have h : ¬ (s.ti.getD k (0, 0, 0)).1 ≤ (s.ti.getD ((k : Int) - 1).toNat (0, 0, 0)).2.1 := h
              have g4 : ¬ (s.ti.getD k (0, 0, 0)).2.1 < (s.ti.getD k (0, 0, 0)).1 := g4
              rw [show ((k : Int) - 1).toNat = k - 1 by omega] at h
              exact again0 (k + 1) ⟨hlt, succ_all hk.2 (h0 ⟨⟨g1, g2⟩, g3⟩ ⟨by omega, (hla g1.1).2 (fun hh => h hh.2)⟩)⟩ (by omega) (by ((first | refine qen ?_ | refine qvs ?_ | refine qeq ?_ | refine qst ?_ | refine qv ?_ | refine qc ?_ | refine qe ?_ | refine qcs ?_ | skip); (repeat' first | exact rfl | (refine qS ?_; constructor))))
            · rename_i g1 g2 g3 g4
              have g4 : ¬ (s.ti.getD k (0, 0, 0)).2.1 < (s.ti.getD k (0, 0, 0)).1 := g4
              exact again0 (k + 1) ⟨hlt, succ_all hk.2 (h0 ⟨⟨g1, g2⟩, g3⟩ ⟨by omega, (hla g1.1).2 (fun hh => by omega)⟩)⟩ (by omega) (by ((first | refine qen ?_ | refine qvs ?_ | refine qeq ?_ | refine qst ?_ | refine qv ?_ | refine qc ?_ | refine qe ?_ | refine qcs ?_ | skip); (repeat' first | exact rfl | (refine qS ?_; constructor))))
          · have : k = s.ti.length := by omega
            subst this
            rw [if_pos (eachN_ok.2 hk.2)] at hq
            have hf : ¬ (((isN s.idle ∧ isN s.swim) ∧ isN s.res) ∧ isT s.fin) → q = (0, 2) := fun h => by rw [hq, enE, unl, decide_eq_false h]; rfl
            have ht : (((isN s.idle ∧ isN s.swim) ∧ isN s.res) ∧ isT s.fin) → q = (0, 0) := fun h => by rw [hq, enE, unl, decide_eq_true h]; rfl
            clear hq
            (repeat' first | (refine Owe.same ?_; first | refine Owe.o ?_ | refine Owe.mk ?_ ?_) | (refine Fork.same ?_; (first | refine fkD ?_ ?_ | refine fkN ?_ ?_ | refine fkM ?_ ?_) <;> intro h) | ((first | refine OpsL.same ?_ | refine OpsDL.same ?_); first | refine pK C116 rfl rfl ?_ | refine pK C115 rfl rfl ?_) | refine MvQ.stay ?_)
            · have hx := hf (fun hh => h hh.1.1.1)
              subst hx
              (refine rqK rfl ?_; (repeat' first | exact rfl | (refine qS ?_; constructor)))
            · have hx := hf (fun hh => h hh.1.1.2)
              subst hx
              (refine rqK rfl ?_; (repeat' first | exact rfl | (refine qS ?_; constructor)))
            · have hx := hf (fun hh => h hh.1.2)
              subst hx
              (refine rqK rfl ?_; (repeat' first | exact rfl | (refine qS ?_; constructor)))
            · have hx := hf (fun hh => h hh.2)
              subst hx
              (refine rqK rfl ?_; (repeat' first | exact rfl | (refine qS ?_; constructor)))
            · rename_i g1 g2 g3
              have hx := ht ⟨⟨⟨g1, g2⟩, g3⟩, h⟩
              subst hx
              (refine rqK rfl ?_; (repeat' first | exact rfl | (refine qS ?_; constructor)))
end Go.Pw

set_option linter.unusedVariables false
set_option maxHeartbeats 2000000
set_option maxRecDepth 100000
namespace Go.Pw
open Go Go.Proofs
/-- moonpool/moonpoolref08.CopySite -/
def lc12m : LCode :=
  (.seq (.region [⟨some 1, .boxS (.tmp 0), none⟩, ⟨some 2, .alloc [(.slice none 0 0), (.slice none 0 0), (.slice none 0 0), (.slice none 0 0), (.int .i64 0), (.int .i64 0), (.int
    .i64 0), (.int .i64 0)], none⟩]) (.seq (.region [⟨some 5, .load true 8 (.tmp 1), none⟩, ⟨some 3, .alloc [(.slice none 0 0), (.slice none 0 0), (.slice none 0 0), (.slice none 0
    0), (.int .i64 0), (.int .i64 0), (.int .i64 0), (.int .i64 0)], none⟩, ⟨none, .store 8 (.tmp 3) (.tmp 5), none⟩]) (.seq (.region [⟨some 6, .fld 0 (.tmp 1), none⟩, ⟨some 7,
    .load false 1 (.tmp 6), none⟩, ⟨some 8, .call (.func 59) [(.tmp 7)], none⟩, ⟨some 9, .fld 0 (.tmp 3), none⟩, ⟨none, .store 1 (.tmp 9) (.tmp 8), none⟩]) (.seq (.region [⟨some 10,
    .fld 1 (.tmp 3), none⟩, ⟨none, .store 1 (.tmp 10) (.const (.slice none 0 0)), none⟩]) (.seq (.seq (.region [⟨some 4, .mv (.const (.int .i64 0)), none⟩]) (.block 0 (.loop (.seq
    (.seq (.region [⟨some 11, .mv (.tmp 4), none⟩, ⟨some 12, .fld 1 (.tmp 1), none⟩, ⟨some 13, .load false 1 (.tmp 12), none⟩, ⟨some 14, .len (.tmp 13), none⟩, ⟨some 15, .bin .lss
    (.tmp 11) (.tmp 14), none⟩]) (.cond (.tmp 15) .skip (.exit 0))) (.seq (.block 1 (.regionD [⟨some 18, .fld 1 (.tmp 3), none⟩, ⟨some 19, .load false 1 (.tmp 18), none⟩, ⟨some 20,
    .fld 1 (.tmp 1), none⟩, ⟨some 21, .load false 1 (.tmp 20), none⟩, ⟨some 22, .mv (.tmp 4), none⟩, ⟨some 23, .idx 1 (.tmp 21) (.tmp 22), none⟩, ⟨some 24, .load false 1 (.tmp 23),
    none⟩, ⟨some 25, .call (.func 14) [(.tmp 24)], none⟩, ⟨some 26, .lit false 24 1 [(.tmp 25)], none⟩, ⟨some 27, .append true 24 1 24 (.tmp 19) (.tmp 26), none⟩, ⟨some 28, .fld 1
    (.tmp 3), none⟩, ⟨none, .store 1 (.tmp 28) (.tmp 27), none⟩] [0, 1, 0, 4, 0, 28, 60, 124, 252, 511, 1023, 2047] [0, 1, 2, 3, 4, 5, 6, 7, 8, 9, 10, 11])) (.region [⟨some 16, .mv
    (.tmp 4), none⟩, ⟨some 17, .bin .add (.tmp 16) (.const (.int .i64 1)), none⟩, ⟨some 4, .mv (.tmp 17), none⟩])))))) (.seq (.region [⟨some 29, .fld 2 (.tmp 1), none⟩, ⟨some 30,
    .load false 1 (.tmp 29), none⟩, ⟨some 31, .call (.func 14) [(.tmp 30)], none⟩, ⟨some 32, .fld 2 (.tmp 3), none⟩, ⟨none, .store 1 (.tmp 32) (.tmp 31), none⟩]) (.seq (.region
    [⟨some 33, .lit false 134 3 [], none⟩, ⟨some 34, .fld 3 (.tmp 1), none⟩, ⟨some 35, .load false 1 (.tmp 34), none⟩, ⟨some 36, .append false 134 3 24 (.tmp 33) (.tmp 35), none⟩,
    ⟨some 37, .fld 3 (.tmp 3), none⟩, ⟨none, .store 1 (.tmp 37) (.tmp 36), none⟩]) (.seq (.region [⟨some 38, .load true 8 (.tmp 3), none⟩, ⟨none, .store 8 (.tmp 2) (.tmp 38),
    none⟩]) .ret))))))))
theorem low12m : lowF Tryz.prog [1, 27] Tryz.f12 = some (39, lc12m.strip, [.cell 2 true 8]) := by kernel_rfl
theorem fn12m : FnOk Tryz.prog 12 39 lc12m [.cell 2 true 8] := ⟨Tryz.call12, [1, 27], _, Tryz.func12, low12m⟩
end Go.Pw

set_option linter.unusedSimpArgs false
set_option linter.unusedVariables false
set_option maxHeartbeats 4000000
namespace Go.Pw
set_option maxRecDepth 2000
open Go Go.Proofs A1 A2 A3 A4
theorem C14 {l : List Int} : l.length ≤ 1000000 → PFD Tryz.prog 14 [.c (ints l)] (.c (ints l)) := fun h => by
  refine pi1 fn14 ?_
  (repeat' first | (refine Owe.same ?_; first | refine Owe.o ?_ | refine Owe.mk ?_ ?_) | (refine Fork.same ?_; (first | refine fkD ?_ ?_ | refine fkN ?_ ?_ | refine fkM ?_ ?_) <;> intro h) | refine MvQ.stay ?_)
  (refine rqK rfl ?_; (repeat' first | exact rfl | (refine qS ?_; constructor)))
theorem C13 {t : St8} : t.d.length ≤ 1000000 → PFD Tryz.prog 13 [stv t] (stv t) := fun h => by
  have c1 := C14 (l := t.d) h
  refine pi1 fn13 ?_
  (repeat' first | (refine Owe.same ?_; first | refine Owe.o ?_ | refine Owe.mk ?_ ?_) | (refine Fork.same ?_; (first | refine fkD ?_ ?_ | refine fkN ?_ ?_ | refine fkM ?_ ?_) <;> intro h) | ((first | refine OpsL.same ?_ | refine OpsDL.same ?_); first | refine pK c1 rfl rfl ?_) | refine MvQ.stay ?_)
  (refine rqK rfl ?_; (repeat' first | exact rfl | (refine qS ?_; constructor)))
theorem C59 {l : List Tk} : (l.length ≤ 1000000 ∧ TkSm l) → PFD Tryz.prog 59 [.c (tks l)] (.c (tks l)) := fun ⟨hl, hs⟩ => by
  refine pi1 fn59 ?_
  (repeat' first | (refine Owe.same ?_; first | refine Owe.o ?_ | refine Owe.mk ?_ ?_) | (refine Fork.same ?_; (first | refine fkD ?_ ?_ | refine fkN ?_ ?_ | refine fkM ?_ ?_) <;> intro h) | refine MvQ.stay ?_)
  refine Sat.nilS 3 119 9 (fun i => tkr (([] : List Tk).getD i tk0)) rfl ?_
  refine Sat.lp (fun k : Nat => ⟨[(4, vi .i64 k), (0, .c (tks l)), (3, .c (.ms 0 (l.take k).length))], [(0, rowv 119 9 tkr tk0 (l.take k))], 1⟩) (fun k => k ≤ l.length) (fun k => l.length - k) 0 [0] (Nat.zero_le _) ?_ ?_
  · (refine qis ?_ ?_ <;> (repeat' first | exact rfl | (refine qS ?_; constructor)))
  · intro k hk
    refine Fork.dec (fun hlt => ?_) (fun hlt => ?_)
    · have hlt : k < l.length := by omega
      have c1 := C14 (l := (l.getD k tk0).a) (hs k hlt).2
      have hl1 : (l.take k).length = k := by rw [List.length_take]; omega
      have htk : l.take (k + 1) = l.take k ++ [l.getD k tk0] := by
        rw [List.take_add_one, List.getElem?_eq_getElem hlt, List.getD_eq_getElem?_getD, List.getElem?_eq_getElem hlt]; rfl
      (repeat' first | (refine Owe.same ?_; first | refine Owe.o ?_ | refine Owe.mk ?_ ?_) | (refine Fork.same ?_; (first | refine fkD ?_ ?_ | refine fkN ?_ ?_ | refine fkM ?_ ?_) <;> intro h) | ((first | refine OpsL.same ?_ | refine OpsDL.same ?_); first | refine pK c1 rfl rfl ?_) | refine MvQ.stay ?_)
      refine again (k + 1) [2] hlt (by omega) ?_
      rw [htk]
      (refine qis ?_ ?_ <;> (repeat' first | exact rfl | (refine qS ?_; constructor)))
      · simp
      · exact ⟨l.getD k tk0, rfl, rfl⟩
    · have : k = l.length := by omega
      subst this
      (repeat' first | (refine Owe.same ?_; first | refine Owe.o ?_ | refine Owe.mk ?_ ?_) | (refine Fork.same ?_; (first | refine fkD ?_ ?_ | refine fkN ?_ ?_ | refine fkM ?_ ?_) <;> intro h) | refine MvQ.stay ?_)
      rw [List.take_length]
      refine rqF 0 _ rfl rfl rfl ?_; (repeat' first | exact rfl | (refine qS ?_; constructor))
theorem C12 {s : Si} : SiSm s → PFD Tryz.prog 12 [siv s] (siv s) := fun hs => by
  have c1 := C59 (l := s.tk) ⟨hs.tk, hs.t⟩
  have c2 := C14 (l := s.ho) hs.ho
  have htr := hs.tr
  have hti := hs.ti
  refine pi1 fn12m ?_
  (repeat' first | (refine Owe.same ?_; first | refine Owe.o ?_ | refine Owe.mk ?_ ?_) | (refine Fork.same ?_; (first | refine fkD ?_ ?_ | refine fkN ?_ ?_ | refine fkM ?_ ?_) <;> intro h) | ((first | refine OpsL.same ?_ | refine OpsDL.same ?_); first | refine pK c1 rfl rfl ?_) | refine MvQ.stay ?_)
  refine Sat.nilB 1 1 24 1 (fun i => [intsD (([] : List (List Int)).getD i [])]) rfl rfl ?_
  refine Sat.lp (fun k : Nat => ⟨[(4, vi .i64 k), (1, .c (.rp (siD s))), (2, .c (.bp 0 0)), (3, .c (.bp 1 0))], [(2, rowv 24 1 (fun l => [intsD l]) [] (s.tr.take k)), (1, .box [.d (tksD s.tk), .ms 2 (s.tr.take k).length, ints s.ho, trs s.ti, int s.idle, int s.swim, int s.res, int s.fin]), (0, .box [.d (.v (.slice none 0 0)), .d (.v (.slice none 0 0)), .d (.v (.slice none 0 0)), .d (.v (.slice none 0 0)), int 0, int 0, int 0, int 0])], 3⟩) (fun k => k ≤ s.tr.length) (fun k => s.tr.length - k) 0 [0, 1, 2] (Nat.zero_le _) ?_ ?_
  · (refine qis ?_ ?_ <;> (repeat' first | exact rfl | (refine qS ?_; constructor)))
  · intro k hk
    refine Fork.dec (fun hlt => ?_) (fun hlt => ?_)
    · have hlt : k < s.tr.length := by omega
      have c3 := C14 (l := s.tr.getD k []) (hs.r k hlt)
      have hl1 : (s.tr.take k).length = k := by rw [List.length_take]; omega
      have htk : s.tr.take (k + 1) = s.tr.take k ++ [s.tr.getD k []] := by
        rw [List.take_add_one, List.getElem?_eq_getElem hlt, List.getD_eq_getElem?_getD, List.getElem?_eq_getElem hlt]; rfl
      (repeat' first | (refine Owe.same ?_; first | refine Owe.o ?_ | refine Owe.mk ?_ ?_) | (refine Fork.same ?_; (first | refine fkD ?_ ?_ | refine fkN ?_ ?_ | refine fkM ?_ ?_) <;> intro h) | ((first | refine OpsL.same ?_ | refine OpsDL.same ?_); first | refine pK c3 rfl rfl ?_) | refine MvQ.stay ?_)
      refine again (k + 1) [0, 1, 11] hlt (by omega) ?_
      rw [htk]
      (refine qis ?_ ?_ <;> (repeat' first | exact rfl | (refine qS ?_; constructor)))
      · exact ⟨s.tr.getD k [], rfl, rfl⟩
      · simp
    · have : k = s.tr.length := by omega
      subst this
      rw [List.take_length]
      (repeat' first | (refine Owe.same ?_; first | refine Owe.o ?_ | refine Owe.mk ?_ ?_) | (refine Fork.same ?_; (first | refine fkD ?_ ?_ | refine fkN ?_ ?_ | refine fkM ?_ ?_) <;> intro h))
      refine MvQ.frzX 1 1 2 rfl rfl rfl (Nat.le_refl _) ?_
      (repeat' first | (refine Owe.same ?_; first | refine Owe.o ?_ | refine Owe.mk ?_ ?_) | (refine Fork.same ?_; (first | refine fkD ?_ ?_ | refine fkN ?_ ?_ | refine fkM ?_ ?_) <;> intro h) | ((first | refine OpsL.same ?_ | refine OpsDL.same ?_); first | refine pK c2 rfl rfl ?_) | refine MvQ.stay ?_)
      (refine rqK rfl ?_; (repeat' first | exact rfl | (refine qS ?_; constructor)))
end Go.Pw

set_option linter.unusedSimpArgs false
set_option linter.unusedVariables false
set_option maxHeartbeats 4000000
namespace Go.Pw
set_option maxRecDepth 2000
open Go Go.Proofs A1 A2 A3 A4
/-- The reference's error of a state of a site. -/
def rsE (s : Si) (t : St8) : Int × Int := if 0 ≤ t.p ∧ t.p ≤ (s.ho.length : Int) - 1 then (if (isT t.t ∧ 0 ≤ t.w ∧ t.w ≤ 100000000) ∧ isN t.o then ascE t.d s.tk.length else (0, 2)) else (0, 6)
theorem rsE_eq {s : Si} {t : St8} (h : (siE s).2 = 0) : stE s t = rsE s t := by
  have e : stF s t = if 0 ≤ t.p ∧ t.p ≤ (s.ho.length : Int) - 1 then (if (isT t.t ∧ 0 ≤ t.w ∧ t.w ≤ 100000000) ∧ isN t.o then 0 else 2) else 6 := by
    rw [stF, h]
    by_cases h1 : 0 ≤ t.p ∧ t.p ≤ (s.ho.length : Int) - 1
    · rw [if_pos h1, unl, decide_eq_true h1]
      by_cases h2 : (isT t.t ∧ 0 ≤ t.w ∧ t.w ≤ 100000000) ∧ isN t.o
      · rw [if_pos h2, stN, unl, decide_eq_true h2]; rfl
      · rw [if_neg h2, stN, unl, decide_eq_false h2]; rfl
    · rw [if_neg h1, unl, decide_eq_false h1]; rfl
  rw [stE, e, rsE]
  by_cases h1 : 0 ≤ t.p ∧ t.p ≤ (s.ho.length : Int) - 1
  · by_cases h2 : (isT t.t ∧ 0 ≤ t.w ∧ t.w ≤ 100000000) ∧ isN t.o
    · simp only [if_pos h1, if_pos h2]; rfl
    · simp only [if_pos h1, if_neg h2]; rfl
  · simp only [if_neg h1]; rfl
theorem C102 {s : Si} {t : St8} : (SiSm s ∧ t.d.length ≤ 1000000) → PFD Tryz.prog 102 [siv s, stv t] (.tup [vi .i64 (rsE s t).1, vi .i64 (rsE s t).2]) := fun ⟨hs, ht⟩ => by
  have hho := hs.ho
  have htk := hs.tk
  obtain ⟨q, hq⟩ : ∃ q, q = rsE s t := ⟨_, rfl⟩
  rw [← hq]
  rw [rsE] at hq
  refine pi2 fn102 ?_
  (repeat' first | (refine Owe.same ?_; first | refine Owe.o ?_ | refine Owe.mk ?_ ?_) | (refine Fork.same ?_; (first | refine fkD ?_ ?_ | refine fkN ?_ ?_ | refine fkM ?_ ?_) <;> intro h) | ((first | refine OpsL.same ?_ | refine OpsDL.same ?_); first | refine pK C75 rfl rfl ?_ | refine pK C116 rfl rfl ?_ | refine pK C115 rfl rfl ?_) | refine MvQ.stay ?_)
  · rw [if_neg h] at hq; subst hq; (refine rqK rfl ?_; (repeat' first | exact rfl | (refine qS ?_; constructor)))
  · rename_i h1
    rw [if_pos h1, if_neg (fun hh => h hh.1.1)] at hq; subst hq; (refine rqK rfl ?_; (repeat' first | exact rfl | (refine qS ?_; constructor)))
  · rename_i h1 h2
    rw [if_pos h1, if_neg (fun hh => h hh.1.2)] at hq; subst hq; (refine rqK rfl ?_; (repeat' first | exact rfl | (refine qS ?_; constructor)))
  · rename_i h1 h2 h3
    rw [if_pos h1, if_neg (fun hh => h hh.2)] at hq; subst hq; (refine rqK rfl ?_; (repeat' first | exact rfl | (refine qS ?_; constructor)))
  · rename_i h1 h2 h3
    rw [if_pos h1, if_pos ⟨⟨h2, h3⟩, h⟩] at hq
    clear h h1 h2 h3
    (repeat' first | (refine Owe.same ?_; first | refine Owe.o ?_ | refine Owe.mk ?_ ?_) | (refine Fork.same ?_; (first | refine fkD ?_ ?_ | refine fkN ?_ ?_ | refine fkM ?_ ?_) <;> intro h) | refine MvQ.stay ?_)
    refine Sat.lp0 (fun k : Nat => [(6, vi .i64 k), (2, .c (.rp (siD s))), (3, .c (.rp (stD t)))]) (fun k => k ≤ t.d.length ∧ ∀ i, i < k → ascN t.d s.tk.length i = 0) (fun k => t.d.length - k) 0 ⟨Nat.zero_le _, fun i hi => by omega⟩ (by ((first | refine qen ?_ | refine qvs ?_ | refine qeq ?_ | refine qst ?_ | refine qv ?_ | refine qc ?_ | refine qe ?_ | refine qcs ?_ | skip); (repeat' first | exact rfl | (refine qS ?_; constructor)))) ?_
    intro k hk
    refine Fork.dec (fun hlt => ?_) (fun hlt => ?_)
    · have hlt : k < t.d.length := by omega
      have hr : ∀ {e}, ascN t.d s.tk.length k = e → ¬ e = 0 → q = ((k : Int), e) := fun he h2 => by
        rw [hq, ascE, eachN_e hlt hk.2 (by rw [he]; exact h2), he]
      have c1 := C26 (s := s) (n := t.d.getD k 0) htk
      (repeat' first | (refine Owe.same ?_; first | refine Owe.o ?_ | refine Owe.mk ?_ ?_) | (refine Fork.same ?_; (first | refine fkD ?_ ?_ | refine fkN ?_ ?_ | refine fkM ?_ ?_) <;> intro h) | ((first | refine OpsL.same ?_ | refine OpsDL.same ?_); first | refine pK c1 rfl rfl ?_) | refine MvQ.stay ?_)
      · have hx := hr (ascN_6 h) (by decide)
        subst hx
        (refine rqK rfl ?_; (repeat' first | exact rfl | (refine qS ?_; constructor)))
      · have hx := hr (ascN_9 ‹_› (by omega) (by rw [show k - 1 = ((k : Int) - 1).toNat by omega]; exact h)) (by decide)
        subst hx
        (refine rqK rfl ?_; (repeat' first | exact rfl | (refine qS ?_; constructor)))
      · have h0 := ascN_0 (l := t.d) (b := s.tk.length) (j := k) ‹_› (fun _ => by
          have h : ¬ t.d.getD k 0 ≤ t.d.getD ((k : Int) - 1).toNat 0 := h
          rw [show k - 1 = ((k : Int) - 1).toNat by omega]; omega)
        exact again0 (k + 1) ⟨hlt, succ_all hk.2 h0⟩ (by omega) (by ((first | refine qen ?_ | refine qvs ?_ | refine qeq ?_ | refine qst ?_ | refine qv ?_ | refine qc ?_ | refine qe ?_ | refine qcs ?_ | skip); (repeat' first | exact rfl | (refine qS ?_; constructor))))
      · have h0 := ascN_0 (l := t.d) (b := s.tk.length) (j := k) ‹_› (fun hh => by omega)
        exact again0 (k + 1) ⟨hlt, succ_all hk.2 h0⟩ (by omega) (by ((first | refine qen ?_ | refine qvs ?_ | refine qeq ?_ | refine qst ?_ | refine qv ?_ | refine qc ?_ | refine qe ?_ | refine qcs ?_ | skip); (repeat' first | exact rfl | (refine qS ?_; constructor))))
    · have : k = t.d.length := by omega
      subst this
      rw [ascE, eachN_z hk.2] at hq
      subst hq
      (repeat' first | (refine Owe.same ?_; first | refine Owe.o ?_ | refine Owe.mk ?_ ?_) | (refine Fork.same ?_; (first | refine fkD ?_ ?_ | refine fkN ?_ ?_ | refine fkM ?_ ?_) <;> intro h) | refine MvQ.stay ?_)
      (refine rqK rfl ?_; (repeat' first | exact rfl | (refine qS ?_; constructor)))
theorem C25 {s : Si} : SiSm s → PFD Tryz.prog 25 [siv s] (vi .i64 (siE s).2) := fun hs => by
  have c1 := C74 hs
  refine pi1 fn25 ?_
  (repeat' first | (refine Owe.same ?_; first | refine Owe.o ?_ | refine Owe.mk ?_ ?_) | (refine Fork.same ?_; (first | refine fkD ?_ ?_ | refine fkN ?_ ?_ | refine fkM ?_ ?_) <;> intro h) | ((first | refine OpsL.same ?_ | refine OpsDL.same ?_); first | refine pK c1 rfl rfl ?_) | refine MvQ.stay ?_)
  (refine rqK rfl ?_; (repeat' first | exact rfl | (refine qS ?_; constructor)))
theorem C63 {s : Si} {t : St8} : (SiSm s ∧ t.d.length ≤ 1000000) → PFD Tryz.prog 63 [siv s, stv t] (vi .i64 (rsE s t).2) := fun hs => by
  have c1 := C102 hs
  refine pi1 fn63 ?_
  (repeat' first | (refine Owe.same ?_; first | refine Owe.o ?_ | refine Owe.mk ?_ ?_) | (refine Fork.same ?_; (first | refine fkD ?_ ?_ | refine fkN ?_ ?_ | refine fkM ?_ ?_) <;> intro h) | ((first | refine OpsL.same ?_ | refine OpsDL.same ?_); first | refine pK c1 rfl rfl ?_) | refine MvQ.stay ?_)
  (refine rqK rfl ?_; (repeat' first | exact rfl | (refine qS ?_; constructor)))
theorem onE_of {s : Si} {t : St8} (h : ¬ (siE s).2 = 0) : onE s t = (siE s).2 := by rw [onE, fstE, if_neg h]
theorem onE_eq {s : Si} {t : St8} (h : (siE s).2 = 0) : onE s t = (rsE s t).2 := by
  rw [onE, fstE, if_pos h, fstE, rsE_eq h]
  split
  · rename_i h; rw [h]; rfl
  · rfl
theorem C16 {s : Si} {t : St8} : (SiSm s ∧ t.d.length ≤ 1000000) → PFD Tryz.prog 16 [siv s, stv t] (vi .i64 (onE s t)) := fun hs => by
  have c1 := C25 hs.1
  have c2 := C63 hs
  obtain ⟨q, hq⟩ : ∃ q, q = onE s t := ⟨_, rfl⟩
  rw [← hq]
  refine pi1 fn16 ?_
  (repeat' first | (refine Owe.same ?_; first | refine Owe.o ?_ | refine Owe.mk ?_ ?_) | (refine Fork.same ?_; (first | refine fkD ?_ ?_ | refine fkN ?_ ?_ | refine fkM ?_ ?_) <;> intro h) | ((first | refine OpsL.same ?_ | refine OpsDL.same ?_); first | refine pK c1 rfl rfl ?_ | refine pK c2 rfl rfl ?_) | refine MvQ.stay ?_)
  · rw [onE_of h] at hq; subst hq; (refine rqK rfl ?_; (repeat' first | exact rfl | (refine qS ?_; constructor)))
  · rw [onE_eq h] at hq; subst hq; (refine rqK rfl ?_; (repeat' first | exact rfl | (refine qS ?_; constructor)))
/-- Equal states. -/
abbrev sameB (a b : St8) : Bool := decide (a.p = b.p ∧ a.t = b.t ∧ a.w = b.w ∧ a.o = b.o ∧ a.d = b.d)
theorem C35 {a b : St8} : a.d.length < 4611686018427387904 → PFD Tryz.prog 35 [stv a, stv b] (vbl (sameB a b)) := fun h => by
  have c1 := C18 (l := a.d) (m := b.d) h
  refine pi1 fn35 ?_
  (repeat' first | (refine Owe.same ?_; first | refine Owe.o ?_ | refine Owe.mk ?_ ?_) | (refine Fork.same ?_; (first | refine fkD ?_ ?_ | refine fkN ?_ ?_ | refine fkM ?_ ?_) <;> intro h) | ((first | refine OpsL.same ?_ | refine OpsDL.same ?_); first | refine pK c1 rfl rfl ?_) | refine MvQ.stay ?_)
  all_goals ((refine rqK rfl ?_; (repeat' first | exact rfl | (refine qS ?_; constructor))); simp only [sameB, decide_eq_decide, decide_eq_false_iff_not, decide_eq_true_eq]; simp_all)
end Go.Pw

set_option linter.unusedSimpArgs false
set_option linter.unusedVariables false
set_option maxHeartbeats 4000000
namespace Go.Pw
set_option maxRecDepth 2000
open Go Go.Proofs A1 A2 A3 A4
theorem DI.take {l : List Int} {k : Nat} {f : Nat → List D} (hk : k ≤ l.length) (hf : ∀ i, i < k → f i = r1 (l.getD i 0)) : DI (.sl 1 k f) (intsD (l.take k)) := by
  have e : (l.take k).length = k := by rw [List.length_take]; omega
  show DI _ (.sl 1 (l.take k).length _)
  rw [e]
  refine DI.sl fun i hi => ?_
  have e2 : (l.take k).getD i 0 = l.getD i 0 := by simp only [List.getD_eq_getElem?_getD, List.getElem?_take, hi, if_true]
  rw [hf i hi, e2]
  exact DIs.refl _
theorem DI.drop {l : List Int} {k m : Nat} {f : Nat → List D} (hm : m = l.length - k) (hf : ∀ i, i < m → f i = r1 (l.getD (k + i) 0)) : DI (.sl 1 m f) (intsD (l.drop k)) := by
  subst hm
  show DI _ (.sl 1 (l.drop k).length _)
  rw [List.length_drop]
  refine DI.sl fun i hi => ?_
  have e2 : (l.drop k).getD i 0 = l.getD (k + i) 0 := by simp only [List.getD_eq_getElem?_getD, List.getElem?_drop]
  rw [hf i hi, e2]
  exact DIs.refl _
/-- The error of numbers of tasks. -/
abbrev nuN (s : Si) (l : List Int) (i : Nat) : Int := fstE [unl (0 ≤ l.getD i 0 ∧ l.getD i 0 ≤ (s.tk.length : Int) - 1) 6, unb (!decide (l.getD i 0 ∈ l.take i)) 23]
def nuE (s : Si) (l : List Int) : Int := (eachN (nuN s l) 0 l.length).2
theorem nuE_ok {s : Si} {l : List Int} : nuE s l = 0 ↔ tkNs s l ∧ l.Nodup := by
  rw [nuE, eachN_ok]
  constructor
  · intro h
    have h1 : ∀ i, i < l.length → (0 ≤ l.getD i 0 ∧ l.getD i 0 ≤ (s.tk.length : Int) - 1) ∧ l.getD i 0 ∉ l.take i := fun i hi => by
      have := h i hi
      rw [nuN, fst2, unl0 (by decide), unb_ok (by decide)] at this
      exact ⟨this.1, by simpa using this.2⟩
    refine ⟨fun i hi => by have := (h1 i hi).1; omega, ?_⟩
    rw [List.nodup_iff_pairwise_ne, List.pairwise_iff_getElem]
    intro i j hi hj hij e
    refine (h1 j hj).2 ?_
    rw [List.getD_eq_getElem?_getD, List.getElem?_eq_getElem hj]
    show l[j] ∈ _
    rw [← e]
    have h2 : (l.take j)[i]? = some l[i] := by rw [List.getElem?_take, if_pos hij, List.getElem?_eq_getElem hi]
    exact List.mem_of_getElem? h2
  · rintro ⟨h1, h2⟩ i hi
    rw [nuN, fst2, unl0 (by decide), unb_ok (by decide)]
    refine ⟨by have := h1 i hi; omega, ?_⟩
    rw [Bool.not_eq_true', decide_eq_false_iff_not]
    intro hm
    obtain ⟨j, hj, e⟩ := List.getElem_of_mem hm
    rw [List.length_take] at hj
    rw [List.getElem_take, List.getD_eq_getElem?_getD, List.getElem?_eq_getElem hi] at e
    rw [List.nodup_iff_pairwise_ne, List.pairwise_iff_getElem] at h2
    exact h2 j i (by omega) hi (by omega) e
/-- Some number is done. -/
abbrev dnB (t : St8) (l : List Int) : Bool := l.any fun n => decide (n ∈ t.d)
theorem SetOk.of {s : Si} {t : St8} {l : List Int} (h : nuE s l = 0) (h1 : dnB t l = false) : SetOk s t l where
  n := (nuE_ok.1 h).1
  u := (nuE_ok.1 h).2
  d := fun x hx => by have := List.any_eq_false.1 h1 x hx; simpa using this
abbrev tgB (s : Si) (t : St8) (l : List Int) : Bool := togB s l.length t l
end Go.Pw

set_option linter.unusedSimpArgs false
set_option linter.unusedVariables false
set_option maxHeartbeats 4000000
namespace Go.Pw
set_option maxRecDepth 2000
open Go Go.Proofs A1 A2 A3 A4
theorem bit_i64 {b i : Nat} (hb : b < 2 ^ 62) (hi : i < 64) : decide (IntKind.i64.wrap ((BitVec.ofInt IntKind.i64.bits ((b : Int).fdiv (2 ^ min (Int.toNat (i : Int)) IntKind.i64.bits)) &&& BitVec.ofInt IntKind.i64.bits 1).toNat : Nat) = 1) = b.testBit i := by
  have hbits : IntKind.i64.bits = 64 := rfl
  have e1 : (b : Int).fdiv (2 ^ min (Int.toNat (i : Int)) IntKind.i64.bits) = ((b / 2 ^ i : Nat) : Int) := by
    rw [hbits, Int.toNat_natCast, Nat.min_eq_left (by omega), Int.fdiv_eq_ediv_of_nonneg _ (Int.pow_nonneg (by decide))]
    norm_cast
  rw [e1, Nat.testBit_eq_decide_div_mod_eq]
  have hlt : b / 2 ^ i < 2 ^ 62 := by
    have := Nat.div_le_self b (2 ^ i)
    omega
  generalize b / 2 ^ i = q at hlt ⊢
  have e2 : (BitVec.ofInt IntKind.i64.bits (q : Int) &&& BitVec.ofInt IntKind.i64.bits 1).toNat = q % 2 := by
    rw [BitVec.toNat_and]
    have f1 : (BitVec.ofInt IntKind.i64.bits (q : Int)).toNat = q := by
      rw [BitVec.toNat_ofInt, hbits]; omega
    have f2 : (BitVec.ofInt IntKind.i64.bits 1).toNat = 1 := rfl
    rw [f1, f2, Nat.and_one_is_mod]
  rw [e2]
  have e3 : IntKind.i64.wrap ((q % 2 : Nat) : Int) = ((q % 2 : Nat) : Int) := by
    rcases (show q % 2 = 0 ∨ q % 2 = 1 by omega) with h | h <;> rw [h] <;> rfl
  rw [e3, Bool.eq_iff_iff, decide_eq_true_eq, decide_eq_true_eq]
  omega
theorem shl_i64 {n : Nat} (h : n ≤ 20) : IntKind.i64.wrap (1 * 2 ^ min (Int.toNat (n : Int)) IntKind.i64.bits) = ((2 ^ n : Nat) : Int) := by
  have : n = 0 ∨ n = 1 ∨ n = 2 ∨ n = 3 ∨ n = 4 ∨ n = 5 ∨ n = 6 ∨ n = 7 ∨ n = 8 ∨ n = 9 ∨ n = 10 ∨ n = 11 ∨ n = 12 ∨ n = 13 ∨ n = 14 ∨ n = 15 ∨ n = 16 ∨ n = 17 ∨ n = 18 ∨ n = 19 ∨ n = 20 := by omega
  rcases this with h | h | h | h | h | h | h | h | h | h | h | h | h | h | h | h | h | h | h | h | h <;> subst h <;> decide
theorem fltL_mem {p : Nat → Bool} {n k : Nat} : (k : Int) ∈ fltL p n ↔ k < n ∧ p k = true := by
  rw [fltL, List.mem_map]
  constructor
  · rintro ⟨i, hi, he⟩
    have : i = k := by omega
    subst this
    exact ⟨List.mem_range.1 (List.mem_filter.1 hi).1, (List.mem_filter.1 hi).2⟩
  · rintro ⟨h1, h2⟩
    exact ⟨k, List.mem_filter.2 ⟨List.mem_range.2 h1, h2⟩, rfl⟩
theorem fltL_asc {p : Nat → Bool} {n : Nat} : (fltL p n).Pairwise (· < ·) := by
  rw [fltL, List.pairwise_map]
  refine List.Pairwise.filter _ ?_
  exact List.pairwise_lt_range.imp fun h => Int.ofNat_lt.2 h
/-- The numbers of a set, as bits say. -/
abbrev subL (n b : Nat) : List Int := fltL (fun i => b.testBit i) n
theorem subL_mem {n b : Nat} {x : Int} (h : x ∈ subL n b) : 0 ≤ x ∧ x < n := by
  simp only [subL, fltL, List.mem_map, List.mem_filter, List.mem_range] at h
  obtain ⟨i, ⟨h1, _⟩, rfl⟩ := h
  omega
theorem subL_nd {n b : Nat} : (subL n b).Nodup := by
  rw [List.nodup_iff_pairwise_ne]
  exact fltL_asc.imp fun h => by omega
/-- The slice of the best one, or none. -/
abbrev nilO : Option (List Int) → V
  | none => .c (.d (.v (.slice none 0 0)))
  | some l => .c (ints l)
abbrev smO (o : Option (List Int)) (l : List Int) : Bool := match o with
  | none => true
  | some m => decide (fstE [cmpI l.length m.length, cmpL l m] < 0)
/-- A set of tasks that do not go together. -/
abbrev clB (s : Si) (t : St8) (l : List Int) : Bool := !dnB t l && !tgB s t l
def clK (s : Si) (t : St8) (n : Nat) : Nat → Option (List Int)
  | 0 => none
  | b + 1 => if smO (clK s t n b) (subL n b) = true ∧ clB s t (subL n b) = true then some (subL n b) else clK s t n b
abbrev clO (s : Si) (t : St8) : Option (List Int) := clK s t s.tk.length (2 ^ s.tk.length)
def clE (s : Si) (t : St8) : List Int × Int := if onE s t = 0 then (match clO s t with | none => ([], 12) | some l => (l, 0)) else ([], onE s t)
theorem SetOk.sub {s : Si} {t : St8} {b : Nat} (h : dnB t (subL s.tk.length b) = false) : SetOk s t (subL s.tk.length b) where
  n := fun i hi => subL_mem (getD_mem 0 hi)
  u := subL_nd
  d := fun x hx => by have := List.any_eq_false.1 h x hx; simpa using this
theorem clK_len {s : Si} {t : St8} {n : Nat} : ∀ {b : Nat} {l : List Int}, clK s t n b = some l → l.length ≤ n ∧ 0 < l.length
  | 0, l, h => by cases h
  | b + 1, l, h => by
    rw [clK] at h
    split at h
    · rename_i hh
      cases h
      refine ⟨fltL_len _ _, ?_⟩
      rcases Nat.eq_zero_or_pos (subL n b).length with h0 | h0
      · have e := List.eq_nil_of_length_eq_zero h0
        rw [e] at hh
        have := hh.2
        simp [clB, tgB, togB] at this
      · exact h0
    · exact clK_len h
theorem C15 {s : Si} {t : St8} : (SiSm s ∧ t.d.length ≤ 1000000) → PFD Tryz.prog 15 [siv s, stv t] (.tup [.c (ints (clE s t).1), vi .i64 (clE s t).2]) := fun ⟨hs, ht⟩ => by
  have c1 := C52 (s := s) (t := t) ⟨hs, ht⟩
  obtain ⟨q, hq⟩ : ∃ q, q = clE s t := ⟨_, rfl⟩
  rw [← hq]
  rw [clE] at hq
  by_cases h0 : onE s t = 0
  · rw [if_pos h0, clO] at hq
    rw [h0] at c1
    have hO := OnOk.of h0
    have hn := hO.ok.n
    have hshl := shl_i64 (n := s.tk.length) (by omega)
    have hpow : 2 ^ s.tk.length ≤ 2 ^ 6 := Nat.pow_le_pow_right (by decide) hn
    have hpos : 1 ≤ 2 ^ s.tk.length := Nat.one_le_two_pow
    obtain ⟨N, hN⟩ : ∃ N, N = 2 ^ s.tk.length := ⟨_, rfl⟩
    rw [← hN] at hshl hpow hq hpos
    have hst : none = clK s t s.tk.length 1 := by
      have e : subL s.tk.length 0 = [] := by
        rw [subL, fltL, List.map_eq_nil_iff, List.filter_eq_nil_iff]; simp
      rw [clK, clK, e, if_neg]
      rintro ⟨_, h⟩
      simp [clB, tgB, togB] at h
    refine pi2 fn15 ?_
    (repeat' first | (refine Owe.same ?_; first | refine Owe.o ?_ | refine Owe.mk ?_ ?_) | (refine Fork.same ?_; (first | refine fkY ?_ | refine fkF ?_ | ((first | refine fkD ?_ ?_ | refine fkN ?_ ?_ | refine fkM ?_ ?_) <;> intro h))) | ((first | refine OpsL.same ?_ | refine OpsDL.same ?_); first | refine oK c1 rfl rfl rfl ?_) | refine MvQ.stay ?_)
    (repeat' first | (refine Owe.same ?_; first | refine Owe.o ?_ | refine Owe.mk ?_ ?_) | (refine Fork.same ?_; (first | refine fkD ?_ ?_ | refine fkN ?_ ?_ | refine fkM ?_ ?_) <;> intro h) | refine MvQ.stay ?_)
    refine Sat.lp (fun ((b, o) : Nat × Option (List Int)) => ⟨[(9, vi .i64 b), (8, nilO o), (2, .c (.rp (siD s))), (6, .c (.bp 0 0))], [(0, .box (diC s t))], 1⟩) (fun ((b, o) : Nat × Option (List Int)) => b ≤ N ∧ o = clK s t s.tk.length b) (fun ((b, _) : Nat × Option (List Int)) => N - b) (1, none) [0] ⟨hpos, hst⟩ ?_ ?_
    · (refine qis ?_ ?_ <;> (repeat' first | exact rfl | (refine qS ?_; constructor)))
    · intro ⟨b, o⟩ ⟨hb, ho⟩
      rcases o with _ | m
      · rcases Nat.lt_or_eq_of_le hb with hbl | rfl
        rotate_left
        · rw [← ho] at hq
          (repeat' first | (refine Owe.same ?_; first | refine Owe.o ?_ | refine Owe.mk ?_ ?_) | (refine Fork.same ?_; (first | refine fkY ?_ | refine fkF ?_ | ((first | refine fkD ?_ ?_ | refine fkN ?_ ?_ | refine fkM ?_ ?_) <;> intro h))) | ((first | refine OpsL.same ?_ | refine OpsDL.same ?_); first | refine oK C55 rfl rfl rfl ?_) | refine MvQ.stay ?_)
          subst hq
          (refine rqK rfl ?_; (repeat' first | exact rfl | (refine qS ?_; constructor)))
        · (repeat' first | (refine Owe.same ?_; first | refine Owe.o ?_ | refine Owe.mk ?_ ?_) | (refine Fork.same ?_; (first | refine fkD ?_ ?_ | refine fkN ?_ ?_ | refine fkM ?_ ?_) <;> intro h) | refine MvQ.stay ?_)
          rotate_left
          · rw [hshl] at h; omega
          · refine Sat.nilS 10 3 1 (fun i => r1 (([] : List Int).getD i 0)) rfl ?_
            refine Sat.lp (fun i : Nat => ⟨[(33, vi .i64 i), (32, vi .i64 s.tk.length), (10, .c (.ms 1 (fltL (fun i => b.testBit i) i).length)), (9, vi .i64 b), (8, nilO none), (2, .c (.rp (siD s))), (6, .c (.bp 0 0))], [(1, rowv 3 1 r1 0 (fltL (fun i => b.testBit i) i)), (0, .box (diC s t))], 2⟩)
              (fun i => i ≤ s.tk.length) (fun i => s.tk.length - i) 0 [0, 1] (Nat.zero_le _) ?_ ?_
            · (refine qis ?_ ?_ <;> (repeat' first | exact rfl | (refine qS ?_; constructor)))
            · intro i hi
              have hfl := fltL_len (fun i => b.testBit i) i
              have hfs := fltL_succ (fun i => b.testBit i) i
              refine Fork.dec (fun hli => ?_) (fun hli => ?_)
              · have hli : i < s.tk.length := by omega
                have htb := bit_i64 (b := b) (i := i) (by omega) (by omega)
                (repeat' first | (refine Owe.same ?_; first | refine Owe.o ?_ | refine Owe.mk ?_ ?_) | (refine Fork.same ?_; (first | refine fkD ?_ ?_ | refine fkN ?_ ?_ | refine fkM ?_ ?_) <;> intro h) | refine MvQ.stay ?_)
                · have h : decide _ = true := decide_eq_true h
                  rw [htb] at h
                  rw [if_pos h] at hfs
                  refine again (i + 1) [0, 2] hli (by omega) ?_
                  (refine qis ?_ ?_ <;> (repeat' first | exact rfl | (refine qS ?_; constructor)))
                  · rw [hfs]; simp
                  · exact hfs
                · have h : decide _ = false := decide_eq_false h
                  rw [htb] at h
                  rw [if_neg (by rw [h]; decide)] at hfs
                  refine again (i + 1) [0, 1] hli (by omega) ?_
                  (refine qis ?_ ?_ <;> (repeat' first | exact rfl | (refine qS ?_; constructor)))
                  · rw [hfs]
                  · rw [hfs]
              · have : i = s.tk.length := by omega
                subst this
                have hsl : (subL s.tk.length b).length ≤ s.tk.length := hfl
                have c3 := C56b (g := 57) (ds := diD s t) (l := subL s.tk.length b) (f := fun i => decide ((subL s.tk.length b).getD i 0 ∈ t.d)) (fun i hi => C57 ht) (by omega)
                rw [anyN_mem (p := fun n => decide (n ∈ t.d))] at c3
                change PFD Tryz.prog 56 _ (vbl (dnB t (subL s.tk.length b))) at c3
                have c4 := fun hd => C58 hs.t (subL s.tk.length b).length hO (SetOk.sub (b := b) hd) (Nat.le_refl _)
                change dnB t (subL s.tk.length b) = false → PFD Tryz.prog 58 _ (vbl (tgB s t (subL s.tk.length b))) at c4
                have hnx : clK s t s.tk.length (b + 1) = if smO (clK s t s.tk.length b) (subL s.tk.length b) = true ∧ clB s t (subL s.tk.length b) = true then some (subL s.tk.length b) else clK s t s.tk.length b := rfl
                rw [← ho] at hnx
                (repeat' first | (refine Owe.same ?_; first | refine Owe.o ?_ | refine Owe.mk ?_ ?_) | (refine Fork.same ?_; (first | refine fkD ?_ ?_ | refine fkN ?_ ?_ | refine fkM ?_ ?_) <;> intro h) | refine MvQ.stay ?_)
                refine OpsL.frz 10 _ rfl rfl (Nat.le_refl _) ?_
                refine OpsL.frz 63 _ rfl rfl (Nat.le_refl _) ?_
                rcases hd : dnB t (subL s.tk.length b) with _ | _
                · rw [hd] at c3
                  have c4 := c4 hd
                  rw [clB, hd] at hnx
                  rcases hg : tgB s t (subL s.tk.length b) with _ | _
                  · rw [hg] at c4 hnx
                    rw [if_pos ⟨rfl, rfl⟩] at hnx
                    (repeat' first | (refine Owe.same ?_; first | refine Owe.o ?_ | refine Owe.mk ?_ ?_) | (refine Fork.same ?_; (first | refine fkY ?_ | refine fkF ?_ | ((first | refine fkD ?_ ?_ | refine fkN ?_ ?_ | refine fkM ?_ ?_) <;> intro h))) | ((first | refine OpsL.same ?_ | refine OpsDL.same ?_); first | refine oK c3 rfl rfl rfl ?_) | refine MvQ.stay ?_)
                    (repeat' first | (refine Owe.same ?_; first | refine Owe.o ?_ | refine Owe.mk ?_ ?_) | (refine Fork.same ?_; (first | refine fkY ?_ | refine fkF ?_ | ((first | refine fkD ?_ ?_ | refine fkN ?_ ?_ | refine fkM ?_ ?_) <;> intro h))) | ((first | refine OpsL.same ?_ | refine OpsDL.same ?_); first | refine oK c4 rfl rfl rfl ?_) | refine MvQ.stay ?_)
                    refine again (b + 1, some (subL s.tk.length b)) [0] ⟨hbl, hnx.symm⟩ (by show N - (b + 1) < N - b; omega) ?_
                    (refine qis ?_ ?_ <;> (repeat' first | exact rfl | (refine qS ?_; constructor)))
                  · rw [hg] at c4 hnx
                    rw [if_neg (by simp)] at hnx
                    (repeat' first | (refine Owe.same ?_; first | refine Owe.o ?_ | refine Owe.mk ?_ ?_) | (refine Fork.same ?_; (first | refine fkY ?_ | refine fkF ?_ | ((first | refine fkD ?_ ?_ | refine fkN ?_ ?_ | refine fkM ?_ ?_) <;> intro h))) | ((first | refine OpsL.same ?_ | refine OpsDL.same ?_); first | refine oK c3 rfl rfl rfl ?_) | refine MvQ.stay ?_)
                    (repeat' first | (refine Owe.same ?_; first | refine Owe.o ?_ | refine Owe.mk ?_ ?_) | (refine Fork.same ?_; (first | refine fkY ?_ | refine fkF ?_ | ((first | refine fkD ?_ ?_ | refine fkN ?_ ?_ | refine fkM ?_ ?_) <;> intro h))) | ((first | refine OpsL.same ?_ | refine OpsDL.same ?_); first | refine oK c4 rfl rfl rfl ?_) | refine MvQ.stay ?_)
                    refine again (b + 1, none) [0] ⟨hbl, hnx.symm⟩ (by show N - (b + 1) < N - b; omega) ?_
                    (refine qis ?_ ?_ <;> (repeat' first | exact rfl | (refine qS ?_; constructor)))
                · rw [hd] at c3
                  rw [clB, hd, if_neg (by simp)] at hnx
                  (repeat' first | (refine Owe.same ?_; first | refine Owe.o ?_ | refine Owe.mk ?_ ?_) | (refine Fork.same ?_; (first | refine fkY ?_ | refine fkF ?_ | ((first | refine fkD ?_ ?_ | refine fkN ?_ ?_ | refine fkM ?_ ?_) <;> intro h))) | ((first | refine OpsL.same ?_ | refine OpsDL.same ?_); first | refine oK c3 rfl rfl rfl ?_) | refine MvQ.stay ?_)
                  refine again (b + 1, none) [0] ⟨hbl, hnx.symm⟩ (by show N - (b + 1) < N - b; omega) ?_
                  (refine qis ?_ ?_ <;> (repeat' first | exact rfl | (refine qS ?_; constructor)))
      · rcases Nat.lt_or_eq_of_le hb with hbl | rfl
        rotate_left
        · rw [← ho] at hq
          have hm := clK_len ho.symm
          (repeat' first | (refine Owe.same ?_; first | refine Owe.o ?_ | refine Owe.mk ?_ ?_) | (refine Fork.same ?_; (first | refine fkY ?_ | refine fkF ?_ | ((first | refine fkD ?_ ?_ | refine fkN ?_ ?_ | refine fkM ?_ ?_) <;> intro h))) | ((first | refine OpsL.same ?_ | refine OpsDL.same ?_); first | refine oK C55 rfl rfl rfl ?_) | refine MvQ.stay ?_)
          subst hq
          (refine rqK rfl ?_; (repeat' first | exact rfl | (refine qS ?_; constructor)))
        · (repeat' first | (refine Owe.same ?_; first | refine Owe.o ?_ | refine Owe.mk ?_ ?_) | (refine Fork.same ?_; (first | refine fkD ?_ ?_ | refine fkN ?_ ?_ | refine fkM ?_ ?_) <;> intro h) | refine MvQ.stay ?_)
          rotate_left
          · rw [hshl] at h; omega
          · refine Sat.nilS 10 3 1 (fun i => r1 (([] : List Int).getD i 0)) rfl ?_
            refine Sat.lp (fun i : Nat => ⟨[(33, vi .i64 i), (32, vi .i64 s.tk.length), (10, .c (.ms 1 (fltL (fun i => b.testBit i) i).length)), (9, vi .i64 b), (8, nilO (some m)), (2, .c (.rp (siD s))), (6, .c (.bp 0 0))], [(1, rowv 3 1 r1 0 (fltL (fun i => b.testBit i) i)), (0, .box (diC s t))], 2⟩)
              (fun i => i ≤ s.tk.length) (fun i => s.tk.length - i) 0 [0, 1] (Nat.zero_le _) ?_ ?_
            · (refine qis ?_ ?_ <;> (repeat' first | exact rfl | (refine qS ?_; constructor)))
            · intro i hi
              have hfl := fltL_len (fun i => b.testBit i) i
              have hfs := fltL_succ (fun i => b.testBit i) i
              refine Fork.dec (fun hli => ?_) (fun hli => ?_)
              · have hli : i < s.tk.length := by omega
                have htb := bit_i64 (b := b) (i := i) (by omega) (by omega)
                (repeat' first | (refine Owe.same ?_; first | refine Owe.o ?_ | refine Owe.mk ?_ ?_) | (refine Fork.same ?_; (first | refine fkD ?_ ?_ | refine fkN ?_ ?_ | refine fkM ?_ ?_) <;> intro h) | refine MvQ.stay ?_)
                · have h : decide _ = true := decide_eq_true h
                  rw [htb] at h
                  rw [if_pos h] at hfs
                  refine again (i + 1) [0, 2] hli (by omega) ?_
                  (refine qis ?_ ?_ <;> (repeat' first | exact rfl | (refine qS ?_; constructor)))
                  · rw [hfs]; simp
                  · exact hfs
                · have h : decide _ = false := decide_eq_false h
                  rw [htb] at h
                  rw [if_neg (by rw [h]; decide)] at hfs
                  refine again (i + 1) [0, 1] hli (by omega) ?_
                  (refine qis ?_ ?_ <;> (repeat' first | exact rfl | (refine qS ?_; constructor)))
                  · rw [hfs]
                  · rw [hfs]
              · have : i = s.tk.length := by omega
                subst this
                have hsl : (subL s.tk.length b).length ≤ s.tk.length := hfl
                have c3 := C56b (g := 57) (ds := diD s t) (l := subL s.tk.length b) (f := fun i => decide ((subL s.tk.length b).getD i 0 ∈ t.d)) (fun i hi => C57 ht) (by omega)
                rw [anyN_mem (p := fun n => decide (n ∈ t.d))] at c3
                change PFD Tryz.prog 56 _ (vbl (dnB t (subL s.tk.length b))) at c3
                have c4 := fun hd => C58 hs.t (subL s.tk.length b).length hO (SetOk.sub (b := b) hd) (Nat.le_refl _)
                change dnB t (subL s.tk.length b) = false → PFD Tryz.prog 58 _ (vbl (tgB s t (subL s.tk.length b))) at c4
                have hnx : clK s t s.tk.length (b + 1) = if smO (clK s t s.tk.length b) (subL s.tk.length b) = true ∧ clB s t (subL s.tk.length b) = true then some (subL s.tk.length b) else clK s t s.tk.length b := rfl
                rw [← ho] at hnx
                have hm := clK_len ho.symm
                have c5 := C62 (l := subL s.tk.length b) (m := m) ⟨by omega, by omega⟩
                (repeat' first | (refine Owe.same ?_; first | refine Owe.o ?_ | refine Owe.mk ?_ ?_) | (refine Fork.same ?_; (first | refine fkD ?_ ?_ | refine fkN ?_ ?_ | refine fkM ?_ ?_) <;> intro h) | refine MvQ.stay ?_)
                refine OpsL.frz 10 _ rfl rfl (Nat.le_refl _) ?_
                (repeat' first | (refine Owe.same ?_; first | refine Owe.o ?_ | refine Owe.mk ?_ ?_) | (refine Fork.same ?_; (first | refine fkY ?_ | refine fkF ?_ | ((first | refine fkD ?_ ?_ | refine fkN ?_ ?_ | refine fkM ?_ ?_) <;> intro h))) | ((first | refine OpsL.same ?_ | refine OpsDL.same ?_); first | refine pK C61 rfl rfl ?_ | refine pK c5 rfl rfl ?_ | refine pK C60 rfl rfl ?_) | refine MvQ.stay ?_)
                · have hs1 : smO (some m) (subL s.tk.length b) = true := decide_eq_true h
                  rw [hs1] at hnx
                  rcases hd : dnB t (subL s.tk.length b) with _ | _
                  · rw [hd] at c3
                    have c4 := c4 hd
                    rw [clB, hd] at hnx
                    rcases hg : tgB s t (subL s.tk.length b) with _ | _
                    · rw [hg] at c4 hnx
                      rw [if_pos ⟨rfl, rfl⟩] at hnx
                      (repeat' first | (refine Owe.same ?_; first | refine Owe.o ?_ | refine Owe.mk ?_ ?_) | (refine Fork.same ?_; (first | refine fkY ?_ | refine fkF ?_ | ((first | refine fkD ?_ ?_ | refine fkN ?_ ?_ | refine fkM ?_ ?_) <;> intro h))) | ((first | refine OpsL.same ?_ | refine OpsDL.same ?_); first | refine oK c3 rfl rfl rfl ?_ | refine oK c4 rfl rfl rfl ?_) | refine MvQ.stay ?_)
                      refine again (b + 1, some (subL s.tk.length b)) [0] ⟨hbl, hnx.symm⟩ (by show N - (b + 1) < N - b; omega) ?_
                      (refine qis ?_ ?_ <;> (repeat' first | exact rfl | (refine qS ?_; constructor)))
                    · rw [hg] at c4 hnx
                      rw [if_neg (by simp)] at hnx
                      (repeat' first | (refine Owe.same ?_; first | refine Owe.o ?_ | refine Owe.mk ?_ ?_) | (refine Fork.same ?_; (first | refine fkY ?_ | refine fkF ?_ | ((first | refine fkD ?_ ?_ | refine fkN ?_ ?_ | refine fkM ?_ ?_) <;> intro h))) | ((first | refine OpsL.same ?_ | refine OpsDL.same ?_); first | refine oK c3 rfl rfl rfl ?_ | refine oK c4 rfl rfl rfl ?_) | refine MvQ.stay ?_)
                      refine again (b + 1, some m) [0] ⟨hbl, hnx.symm⟩ (by show N - (b + 1) < N - b; omega) ?_
                      (refine qis ?_ ?_ <;> (repeat' first | exact rfl | (refine qS ?_; constructor)))
                  · rw [hd] at c3
                    rw [clB, hd, if_neg (by simp)] at hnx
                    (repeat' first | (refine Owe.same ?_; first | refine Owe.o ?_ | refine Owe.mk ?_ ?_) | (refine Fork.same ?_; (first | refine fkY ?_ | refine fkF ?_ | ((first | refine fkD ?_ ?_ | refine fkN ?_ ?_ | refine fkM ?_ ?_) <;> intro h))) | ((first | refine OpsL.same ?_ | refine OpsDL.same ?_); first | refine oK c3 rfl rfl rfl ?_) | refine MvQ.stay ?_)
                    refine again (b + 1, some m) [0] ⟨hbl, hnx.symm⟩ (by show N - (b + 1) < N - b; omega) ?_
                    (refine qis ?_ ?_ <;> (repeat' first | exact rfl | (refine qS ?_; constructor)))
                · have hs1 : smO (some m) (subL s.tk.length b) = false := decide_eq_false h
                  rw [hs1, if_neg (by simp)] at hnx
                  refine again (b + 1, some m) [0] ⟨hbl, hnx.symm⟩ (by show N - (b + 1) < N - b; omega) ?_
                  (refine qis ?_ ?_ <;> (repeat' first | exact rfl | (refine qS ?_; constructor)))
  · rw [if_neg h0] at hq
    generalize onE s t = e at *
    subst hq
    refine pi2 fn15 ?_
    (repeat' first | (refine Owe.same ?_; first | refine Owe.o ?_ | refine Owe.mk ?_ ?_) | (refine Fork.same ?_; (first | refine fkY ?_ | refine fkF ?_ | ((first | refine fkD ?_ ?_ | refine fkN ?_ ?_ | refine fkM ?_ ?_) <;> intro h))) | ((first | refine OpsL.same ?_ | refine OpsDL.same ?_); first | refine oK c1 rfl rfl rfl ?_) | refine MvQ.stay ?_)
    (refine rqK rfl ?_; (repeat' first | exact rfl | (refine qS ?_; constructor)))
end Go.Pw

set_option linter.unusedSimpArgs false
set_option linter.unusedVariables false
set_option maxHeartbeats 4000000
namespace Go.Pw
set_option maxRecDepth 2000
open Go Go.Proofs A1 A2 A3 A4
abbrev exSi : Si := ⟨[⟨⟨#[118, 97, 108, 118, 101]⟩, 1, 20, 30, 4, 50, 0, 300, []⟩, ⟨⟨#[112, 114, 111, 98, 101]⟩, 2, 10, 10, 1, 30, 80, 90, []⟩, ⟨⟨#[99, 108, 111, 115, 101]⟩, 1, 10, 20, 2, 40, 0, 400, [0]⟩], [[0, 10, 20], [10, 0, 10], [20, 10, 0]], [30, 40, 50], [(100, 199, 5)], 1, 2, 20, 400⟩
abbrev exSt : St8 := ⟨0, 0, 300, 6, []⟩
abbrev exSt1 : St8 := ⟨1, 30, 250, 2, [0]⟩
theorem PFD.res {P : Program} {f : FuncId} {args : List V} {v v' : V} (h : PFD P f args v) (hr : RI v v') : PFD P f args v' :=
  ⟨h.h.1, h.h.2.1, fun Γ w us h1 h2 h3 => (h.h.2.2 Γ w us h1 h2 h3).mono fun e w' ⟨u, Γ', q1, q2, q3⟩ => ⟨u, Γ', q1, hr _ _ _ q2, q3⟩⟩
theorem DI.nil (s : Nat) (f : Nat → List D) : DI (.v (.slice none 0 0)) (.sl s 0 f) := fun I w u h => by
  cases h; exact .slE _ _ _ _
/-- A slice that was written out. -/
abbrev litD (s : Nat) (l : List (List D)) : D := .sl s l.length fun i => l.getD i []
theorem DI.lit {s : Nat} {l : List (List D)} {g : Nat → List D} (h : ∀ i, i < l.length → DIs (l.getD i []) (g i)) : DI (litD s l) (.sl s l.length g) := DI.sl h
abbrev exRaw : List D := [litD 9 [[.v (.string ⟨#[118, 97, 108, 118, 101]⟩), dI 1, dI 20, dI 30, dI 4, dI 50, dI 0, dI 300, .v (.slice none 0 0)], [.v (.string ⟨#[112, 114, 111, 98, 101]⟩), dI 2, dI 10, dI 10, dI 1, dI 30, dI 80, dI 90, .v (.slice none 0 0)], [.v (.string ⟨#[99, 108, 111, 115, 101]⟩), dI 1, dI 10, dI 20, dI 2, dI 40, dI 0, dI 400, litD 1 [[dI 0]]]],
  litD 1 [[litD 1 [[dI 0], [dI 10], [dI 20]]], [litD 1 [[dI 10], [dI 0], [dI 10]]], [litD 1 [[dI 20], [dI 10], [dI 0]]]], litD 1 [[dI 30], [dI 40], [dI 50]], litD 3 [[dI 100, dI 199, dI 5]], dI 1, dI 2, dI 20, dI 400]
theorem DIs.of {ds es : List D} (h : ds = es) : DIs ds es := h ▸ DIs.refl ds
theorem ex3I {a b c : Int} : DI (litD 1 [[dI a], [dI b], [dI c]]) (intsD [a, b, c]) := DI.sl fun i hi => by
  match i, hi with
  | 0, _ => exact DIs.refl _
  | 1, _ => exact DIs.refl _
  | 2, _ => exact DIs.refl _
theorem C48 : PFD Tryz.prog 48 [] (siv exSi) := by
  refine PFD.res (v := .agg [.d (litD 9 [[.v (.string ⟨#[118, 97, 108, 118, 101]⟩), dI 1, dI 20, dI 30, dI 4, dI 50, dI 0, dI 300, .v (.slice none 0 0)], [.v (.string ⟨#[112, 114, 111, 98, 101]⟩), dI 2, dI 10, dI 10, dI 1, dI 30, dI 80, dI 90, .v (.slice none 0 0)], [.v (.string ⟨#[99, 108, 111, 115, 101]⟩), dI 1, dI 10, dI 20, dI 2, dI 40, dI 0, dI 400, litD 1 [[dI 0]]]]), .d (litD 1 [[litD 1 [[dI 0], [dI 10], [dI 20]]], [litD 1 [[dI 10], [dI 0], [dI 10]]], [litD 1 [[dI 20], [dI 10], [dI 0]]]]), .d (litD 1 [[dI 30], [dI 40], [dI 50]]), .d (litD 3 [[dI 100, dI 199, dI 5]]), .d (dI 1), .d (dI 2), .d (dI 20), .d (dI 400)]) ?_ (RI.aggI (ds := exRaw) (es := siD exSi) ?_)
  · refine pi1 fn48 ?_
    (repeat' first | (refine Owe.same ?_; first | refine Owe.o ?_ | refine Owe.mk ?_ ?_) | (refine Fork.same ?_; (first | refine fkD ?_ ?_ | refine fkN ?_ ?_ | refine fkM ?_ ?_) <;> intro h) | refine MvQ.stay ?_)
    (refine rqK rfl ?_; (repeat' first | exact rfl | (refine qS ?_; constructor)))
  · refine .cons (DI.sl fun i hi => ?_) (.cons (DI.sl fun i hi => ?_) (.cons ex3I (.cons (DI.sl fun i hi => ?_) (DIs.refl _))))
    · match i, hi with
      | 0, _ => exact .cons (DI.refl _) (.cons (DI.refl _) (.cons (DI.refl _) (.cons (DI.refl _) (.cons (DI.refl _) (.cons (DI.refl _) (.cons (DI.refl _) (.cons (DI.refl _) (.cons (DI.nil _ _) .nil))))))))
      | 1, _ => exact .cons (DI.refl _) (.cons (DI.refl _) (.cons (DI.refl _) (.cons (DI.refl _) (.cons (DI.refl _) (.cons (DI.refl _) (.cons (DI.refl _) (.cons (DI.refl _) (.cons (DI.nil _ _) .nil))))))))
      | 2, _ => exact .cons (DI.refl _) (.cons (DI.refl _) (.cons (DI.refl _) (.cons (DI.refl _) (.cons (DI.refl _) (.cons (DI.refl _) (.cons (DI.refl _) (.cons (DI.refl _) (.cons (DI.sl fun i hi => by
          match i, hi with
          | 0, _ => exact DIs.refl _) .nil))))))))
    · match i, hi with
      | 0, _ => exact .cons ex3I .nil
      | 1, _ => exact .cons ex3I .nil
      | 2, _ => exact .cons ex3I .nil
    · match i, hi with
      | 0, _ => exact DIs.refl _
/-- The same fold, to be calculated. -/
def grS (s : Si) : Nat → St8 → List Int → List Int × Int → List Int × Int
  | 0, _, p, b => updP s p b
  | f + 1, t, p, b => (List.range s.tk.length).foldl (fun b (k : Nat) => if spE s t (k : Int) = 0 then grS s f (spS s t (k : Int)) (p ++ [(k : Int)]) b else b) (updP s p b)
theorem grS_eq {s : Si} : ∀ (f : Nat) (t : St8) (p : List Int) (b : List Int × Int), grwF s f t p b = grS s f t p b
  | 0, t, p, b => by rw [grwF, grS]
  | f + 1, t, p, b => by
    have key : ∀ k, grwK s f t p (updP s p b) k = (List.range k).foldl (fun b (k : Nat) => if spE s t (k : Int) = 0 then grS s f (spS s t (k : Int)) (p ++ [(k : Int)]) b else b) (updP s p b) := fun k => by
      induction k with
      | zero => rw [grwK]; rfl
      | succ k ih =>
        rw [grwK, List.range_succ, List.foldl_append, ← ih, grS_eq f]
        rfl
    rw [grwF, grS, key]
theorem C49 : PFD Tryz.prog 49 [] (stv exSt) := by
  refine pi1 fn49 ?_
  (repeat' first | (refine Owe.same ?_; first | refine Owe.o ?_ | refine Owe.mk ?_ ?_) | (refine Fork.same ?_; (first | refine fkD ?_ ?_ | refine fkN ?_ ?_ | refine fkM ?_ ?_) <;> intro h) | refine MvQ.stay ?_)
  (refine rqK rfl ?_; (repeat' first | exact rfl | (refine qS ?_; constructor)))
theorem exSm : SiSm exSi := ⟨by decide, by decide, by decide, by decide, by decide, by decide⟩
theorem ex1 : sbE exSi exSt 0 = 0 := by decide +kernel
theorem ex2 : sameB (spS exSi exSt 0) exSt1 = true := by decide +kernel
theorem ex3 : lrE exSi exSt1 = (170, 0) := by decide +kernel
theorem ex4 : orE exSi exSt = 0 := by decide +kernel
theorem ex5 : bestP exSi exSt = ([0, 2], 90) := by
  rw [bestP, grS_eq]; decide +kernel
theorem ex6 : clE exSi exSt = ([0, 1, 2], 0) := by decide +kernel
theorem C8 : PFD Tryz.prog 8 [] (vbl true) := by
  have c1 := C30 (s := exSi) (t := exSt) (n := 0) ⟨exSm, by decide⟩
  rw [ex1, if_pos rfl] at c1
  have c2 := C50 (s := exSi) (t := exSt1) ⟨exSm, by decide⟩
  rw [ex3] at c2
  have c3 := C22 (s := exSi) (t := exSt) ⟨exSm, by decide⟩
  rw [ex4, if_pos rfl, if_pos rfl, ex5] at c3
  have c4 := C15 (s := exSi) (t := exSt) ⟨exSm, by decide⟩
  rw [ex6] at c4
  have hl : (spS exSi exSt 0).d.length < 4611686018427387904 := by decide +kernel
  have c5 := C35 (a := spS exSi exSt 0) (b := exSt1) hl
  rw [ex2] at c5
  have c6 := C18 (l := [0, 2]) (m := [0, 2]) (by decide)
  have c7 := C18 (l := [0, 1, 2]) (m := [0, 1, 2]) (by decide)
  rw [decide_eq_true rfl] at c6 c7
  generalize spS exSi exSt 0 = X at *
  refine pi1 fn8 ?_
  (repeat' first | (refine Owe.same ?_; first | refine Owe.o ?_ | refine Owe.mk ?_ ?_) | (refine Fork.same ?_; (first | refine fkY ?_ | refine fkF ?_ | ((first | refine fkD ?_ ?_ | refine fkN ?_ ?_ | refine fkM ?_ ?_) <;> intro h))) | ((first | refine OpsL.same ?_ | refine OpsDL.same ?_); first | refine pK C48 rfl rfl ?_ | refine pK C49 rfl rfl ?_ | refine pK c1 rfl rfl ?_ | refine pK c2 rfl rfl ?_ | refine pK c3 rfl rfl ?_ | refine pK c4 rfl rfl ?_ | refine pK c5 rfl rfl ?_) | refine MvQ.stay ?_)
  ((first | refine OpsL.same ?_ | refine OpsDL.same ?_); first | refine pK c6 rfl rfl ?_)
  (repeat' first | (refine Owe.same ?_; first | refine Owe.o ?_ | refine Owe.mk ?_ ?_) | (refine Fork.same ?_; (first | refine fkY ?_ | refine fkF ?_ | ((first | refine fkD ?_ ?_ | refine fkN ?_ ?_ | refine fkM ?_ ?_) <;> intro h))) | ((first | refine OpsL.same ?_ | refine OpsDL.same ?_); first | refine oK C48 rfl rfl rfl ?_) | refine MvQ.stay ?_)
  ((first | refine OpsL.same ?_ | refine OpsDL.same ?_); first | refine pK c7 rfl rfl ?_)
  (repeat' first | (refine Owe.same ?_; first | refine Owe.o ?_ | refine Owe.mk ?_ ?_) | (refine Fork.same ?_; (first | refine fkY ?_ | refine fkF ?_ | ((first | refine fkD ?_ ?_ | refine fkN ?_ ?_ | refine fkM ?_ ?_) <;> intro h))) | ((first | refine OpsL.same ?_ | refine OpsDL.same ?_); first | refine oK C48 rfl rfl rfl ?_) | refine MvQ.stay ?_)
  (refine rqK rfl ?_; (repeat' first | exact rfl | (refine qS ?_; constructor)))
end Go.Pw

set_option linter.unusedVariables false
set_option maxHeartbeats 2000000
set_option maxRecDepth 100000
namespace Go.Pw
open Go Go.Proofs
/-- (moonpool/dive.dive).carried -/
def lc79m : LCode :=
  (.seq (.region [⟨some 2, .boxS (.tmp 0), none⟩, ⟨some 4, .mv (.const (.slice none 0 0)), none⟩, ⟨some 5, .mv (.const (.int .i64 0)), none⟩]) (.seq (.region [⟨some 11, .load true
    13 (.tmp 2), none⟩, ⟨some 12, .lit true 95 13 [(.tmp 11)], none⟩, ⟨some 6, .mv (.tmp 12), none⟩]) (.seq (.seq (.region [⟨some 13, .mv (.tmp 1), none⟩, ⟨some 14, .len (.tmp 13),
    none⟩, ⟨some 15, .mv (.const (.int .i64 0)), none⟩]) (.block 0 (.loop (.seq (.region [⟨some 16, .bin .lss (.tmp 15) (.tmp 14), none⟩]) (.seq (.cond (.tmp 16) .skip (.exit 0))
    (.seq (.block 1 (.seq (.region [⟨some 17, .idx 1 (.tmp 13) (.tmp 15), none⟩, ⟨some 18, .load false 1 (.tmp 17), none⟩, ⟨some 8, .mv (.tmp 18), none⟩]) (.seq (.region [⟨some 20,
    .mv (.tmp 6), none⟩, ⟨some 21, .mv (.tmp 6), none⟩, ⟨some 22, .len (.tmp 21), none⟩, ⟨some 23, .bin .sub (.tmp 22) (.const (.int .i64 1)), none⟩, ⟨some 24, .idx 13 (.tmp 20)
    (.tmp 23), none⟩, ⟨some 25, .load true 13 (.tmp 24), none⟩, ⟨some 26, .mv (.tmp 8), none⟩, ⟨some 27, .call (.func 78) [(.tmp 25), (.tmp 26)], none⟩, ⟨some 19, .mv (.tmp 27),
    none⟩, ⟨some 28, .ext (.tmp 19) 0, none⟩, ⟨some 29, .ext (.tmp 19) 1, none⟩, ⟨some 9, .alloc [(.slice none 0 0), (.slice none 0 0), (.slice none 0 0), (.slice none 0 0), (.int
    .i64 0), (.int .i64 0), (.int .i64 0), (.int .i64 0), (.int .i64 0), (.int .i64 0), (.int .i64 0), (.int .i64 0), (.slice none 0 0)], none⟩, ⟨none, .store 13 (.tmp 9) (.tmp 28),
    none⟩, ⟨some 10, .mv (.tmp 29), none⟩]) (.seq (.seq (.region [⟨some 30, .mv (.tmp 10), none⟩, ⟨some 31, .bin .neq (.tmp 30) (.const (.int .i64 0)), none⟩]) (.cond (.tmp 31)
    (.seq (.region [⟨some 32, .mv (.tmp 6), none⟩, ⟨some 33, .mv (.tmp 10), none⟩, ⟨some 4, .mv (.tmp 32), none⟩, ⟨some 5, .mv (.tmp 33), none⟩]) .ret) .skip)) (.region [⟨some 34,
    .mv (.tmp 6), none⟩, ⟨some 35, .load true 13 (.tmp 9), none⟩, ⟨some 36, .lit false 95 13 [(.tmp 35)], none⟩, ⟨some 37, .append true 95 13 184 (.tmp 34) (.tmp 36), none⟩, ⟨some
    6, .mv (.tmp 37), none⟩]))))) (.region [⟨some 38, .bin .add (.tmp 15) (.const (.int .i64 1)), none⟩, ⟨some 15, .mv (.tmp 38), none⟩]))))))) (.seq (.region [⟨some 39, .mv (.tmp
    6), none⟩, ⟨some 4, .mv (.tmp 39), none⟩, ⟨some 5, .mv (.const (.int .i64 0)), none⟩]) .ret))))
theorem low79m : lowF Tryz.prog [2, 12, 37] Tryz.f79 = some (40, lc79m.strip, [.tmp 4, .tmp 5]) := by kernel_rfl
theorem fn79m : FnOk Tryz.prog 79 40 lc79m [.tmp 4, .tmp 5] := ⟨Tryz.call79, [2, 12, 37], _, Tryz.func79, low79m⟩
end Go.Pw

set_option linter.unusedSimpArgs false
set_option linter.unusedVariables false
set_option maxHeartbeats 4000000
namespace Go.Pw
set_option maxRecDepth 2000
open Go Go.Proofs A1 A2 A3 A4
/-- The states of a plan, one by one, and the error of each step. -/
def stK (s : Si) (t : St8) (l : List Int) : Nat → St8
  | 0 => t
  | k + 1 => spS s (stK s t l k) (l.getD k 0)
def sfK (s : Si) (t : St8) (l : List Int) (k : Nat) : Int := spE s (stK s t l k) (l.getD k 0)
/-- The first step with an error. -/
def prE (s : Si) (t : St8) (l : List Int) : Int × Int := eachN (sfK s t l) 0 l.length
theorem stK_ok {s : Si} {t : St8} {l : List Int} (h : OnOk s t) : ∀ {k : Nat}, (∀ i, i < k → sfK s t l i = 0) → OnOk s (stK s t l k)
  | 0, _ => h
  | k + 1, hk => by
    have ih := stK_ok h (k := k) fun i hi => hk i (by omega)
    obtain ⟨⟨e, _⟩, h1, _⟩ := spS_ok ih (hk k (by omega))
    rw [stK, e]; exact h1
abbrev divs (s : Si) (l : List St8) : C := slv 13 (diD s) st0 l
theorem C79 {s : Si} {t : St8} {l : List Int} : (OnOk s t ∧ TkSm s.tk ∧ l.length ≤ 1000) → PFD Tryz.prog 79 [div s t, .c (ints l)] (.tup [.c (divs s (accL (stK s t l) (if (prE s t l).2 = 0 then l.length + 1 else (prE s t l).1.toNat + 1))), vi .i64 (prE s t l).2]) := fun ⟨hO, hs, hl⟩ => by
  obtain ⟨q, hq⟩ : ∃ q, q = prE s t l := ⟨_, rfl⟩
  rw [← hq]
  rw [prE] at hq
  refine pi2 fn79m ?_
  (repeat' first | (refine Owe.same ?_; first | refine Owe.o ?_ | refine Owe.mk ?_ ?_) | (refine Fork.same ?_; (first | refine fkD ?_ ?_ | refine fkN ?_ ?_ | refine fkM ?_ ?_) <;> intro h) | refine MvQ.stay ?_)
  refine Sat.lp (fun k : Nat => ⟨[(15, vi .i64 k), (14, vi .i64 l.length), (13, .c (ints l)), (6, .c (.ms 0 (accL (stK s t l) (k + 1)).length)), (1, .c (ints l)), (2, .c (.rp (diD s t)))], [(0, rowv 95 13 (diD s) st0 (accL (stK s t l) (k + 1)))], 1⟩) (fun k => k ≤ l.length ∧ ∀ i, i < k → sfK s t l i = 0) (fun k => l.length - k) 0 [0] ⟨Nat.zero_le _, fun i hi => by omega⟩ ?_ ?_
  · (refine qis ?_ ?_ <;> (repeat' first | exact rfl | (refine qS ?_; constructor)))
  · intro k hk
    have hkl : (accL (stK s t l) (k + 1)).length = k + 1 := accL_len _ _
    refine Fork.dec (fun hlt => ?_) (fun hlt => ?_)
    · have hlt : k < l.length := by omega
      have hOk := stK_ok hO hk.2
      have e : (accL (stK s t l) (k + 1)).getD ((((accL (stK s t l) (k + 1)).length : Nat) : Int) - 1).toNat st0 = stK s t l k := by
        rw [show ((((accL (stK s t l) (k + 1)).length : Nat) : Int) - 1).toNat = k by omega, List.getD_eq_getElem?_getD]
        simp [accL]
      have c1 := C78 (s := s) (t := stK s t l k) (n := l.getD k 0) ⟨hOk, by have := hOk.dl; have := hOk.ok.n; omega, hs⟩
      have hsf : sfK s t l k = spE s (stK s t l k) (l.getD k 0) := rfl
      have hst : stK s t l (k + 1) = spS s (stK s t l k) (l.getD k 0) := rfl
      have hac : accL (stK s t l) (k + 1 + 1) = accL (stK s t l) (k + 1) ++ [spS s (stK s t l k) (l.getD k 0)] := accL_succ _ _
      generalize spE s (stK s t l k) (l.getD k 0) = E at *
      generalize spS s (stK s t l k) (l.getD k 0) = X at *
      rw [← e] at c1
      (repeat' first | (refine Owe.same ?_; first | refine Owe.o ?_ | refine Owe.mk ?_ ?_) | (refine Fork.same ?_; (first | refine fkD ?_ ?_ | refine fkN ?_ ?_ | refine fkM ?_ ?_) <;> intro h) | ((first | refine OpsL.same ?_ | refine OpsDL.same ?_); first | refine pK c1 rfl rfl ?_) | refine MvQ.stay ?_)
      · have hq : q = ((k : Int), E) := by
          rw [hq, eachN_e hlt hk.2 (by rw [hsf]; exact h), hsf]
        subst hq
        have he : (accL (stK s t l) (if ((k : Int), E).2 = 0 then l.length + 1 else ((k : Int), E).1.toNat + 1)) = accL (stK s t l) (k + 1) := by
          rw [if_neg h]; rfl
        rw [he]
        refine rqF 0 _ rfl rfl rfl ?_; (repeat' first | exact rfl | (refine qS ?_; constructor))
      · have hz : sfK s t l k = 0 := hsf.trans h
        refine again (k + 1) [2] ⟨hlt, succ_all hk.2 hz⟩ (by omega) ?_
        rw [hac]
        (refine qis ?_ ?_ <;> (repeat' first | exact rfl | (refine qS ?_; constructor)))
        · simp
        · exact ⟨X, rfl, rfl⟩
    · have : k = l.length := by omega
      subst this
      rw [eachN_z hk.2] at hq
      subst hq
      (repeat' first | (refine Owe.same ?_; first | refine Owe.o ?_ | refine Owe.mk ?_ ?_) | (refine Fork.same ?_; (first | refine fkD ?_ ?_ | refine fkN ?_ ?_ | refine fkM ?_ ?_) <;> intro h) | refine MvQ.stay ?_)
      refine rqF 0 _ rfl rfl rfl ?_; (repeat' first | exact rfl | (refine qS ?_; constructor))
theorem prE_tk {s : Si} {t : St8} {l : List Int} (hO : OnOk s t) (h : (prE s t l).2 = 0) : tkNs s l := fun k hk => by
  have h1 := eachN_ok.1 h
  have h2 := spS_ok (stK_ok hO (k := k) fun i hi => h1 i (by omega)) (h1 k hk)
  have := h2.1.2.2.2
  omega
def cpE (s : Si) (t : St8) (l : List Int) : Int × Int := if onE s t = 0 then (if (prE s t l).2 = 0 then (vaI s l, 0) else prE s t l) else (0, onE s t)
theorem eachN_i {f : Nat → Int} {n : Nat} (h : ¬ (eachN f 0 n).2 = 0) : ∃ k : Nat, k < n ∧ (∀ i, i < k → f i = 0) ∧ eachN f 0 n = ((k : Int), f k) := by
  have hex : ∀ n, (¬ ∀ k, k < n → f k = 0) → ∃ k, k < n ∧ (∀ i, i < k → f i = 0) ∧ ¬ f k = 0 := fun n => by
    induction n with
    | zero => intro h; exact absurd (fun k hk => by omega) h
    | succ n ih =>
      intro h
      by_cases h1 : ∀ k, k < n → f k = 0
      · by_cases h2 : f n = 0
        · exact absurd (succ_all h1 h2) h
        · exact ⟨n, Nat.lt_succ_self _, h1, h2⟩
      · obtain ⟨k, h2, h3⟩ := ih h1
        exact ⟨k, by omega, h3⟩
  obtain ⟨k, h1, h2, h3⟩ := hex n fun hh => h (eachN_ok.2 hh)
  exact ⟨k, h1, h2, eachN_e h1 h2 h3⟩
theorem C32 {s : Si} {t : St8} {l : List Int} : (SiSm s ∧ t.d.length ≤ 1000 ∧ l.length ≤ 1000) → PFD Tryz.prog 32 [siv s, stv t, .c (ints l)] (.tup [vi .i64 (cpE s t l).1, vi .i64 (cpE s t l).2]) := fun ⟨hs, hd, hl⟩ => by
  have c1 := C52 (s := s) (t := t) ⟨hs, by omega⟩
  obtain ⟨q, hq⟩ : ∃ q, q = cpE s t l := ⟨_, rfl⟩
  rw [← hq]
  rw [cpE] at hq
  by_cases h0 : onE s t = 0
  rotate_left
  · rw [if_neg h0] at hq
    generalize onE s t = e at *
    subst hq
    refine pi2 fn32 ?_
    (repeat' first | (refine Owe.same ?_; first | refine Owe.o ?_ | refine Owe.mk ?_ ?_) | (refine Fork.same ?_; (first | refine fkY ?_ | refine fkF ?_ | ((first | refine fkD ?_ ?_ | refine fkN ?_ ?_ | refine fkM ?_ ?_) <;> intro h))) | ((first | refine OpsL.same ?_ | refine OpsDL.same ?_); first | refine oK c1 rfl rfl rfl ?_) | refine MvQ.stay ?_)
    (refine rqK rfl ?_; (repeat' first | exact rfl | (refine qS ?_; constructor)))
  rw [if_pos h0] at hq
  rw [h0] at c1
  have hO := OnOk.of h0
  have c2 := C79 (s := s) (t := t) (l := l) ⟨hO, hs.t, hl⟩
  by_cases h1 : (prE s t l).2 = 0
  · rw [if_pos h1] at hq
    rw [if_pos h1, h1] at c2
    have c3 := C81 (s := s) (l := l) ⟨hO.ok, prE_tk hO h1, hl⟩
    generalize vaI s l = v at *
    generalize accL (stK s t l) (l.length + 1) = L at *
    subst hq
    refine pi2 fn32 ?_
    (repeat' first | (refine Owe.same ?_; first | refine Owe.o ?_ | refine Owe.mk ?_ ?_) | (refine Fork.same ?_; (first | refine fkY ?_ | refine fkF ?_ | ((first | refine fkD ?_ ?_ | refine fkN ?_ ?_ | refine fkM ?_ ?_) <;> intro h))) | ((first | refine OpsL.same ?_ | refine OpsDL.same ?_); first | refine oK c1 rfl rfl rfl ?_ | refine oK c2 rfl rfl rfl ?_ | refine oK c3 rfl rfl rfl ?_) | refine MvQ.stay ?_)
    (refine rqK rfl ?_; (repeat' first | exact rfl | (refine qS ?_; constructor)))
  · rw [if_neg h1] at hq
    rw [if_neg h1] at c2
    obtain ⟨k, k1, k2, k3⟩ := eachN_i h1
    have k3 : prE s t l = ((k : Int), sfK s t l k) := k3
    rw [k3] at hq c2 h1
    have hL : (accL (stK s t l) (((k : Int), sfK s t l k).1.toNat + 1)).length = k + 1 := accL_len _ _
    generalize accL (stK s t l) (((k : Int), sfK s t l k).1.toNat + 1) = L at *
    generalize sfK s t l k = e at *
    subst hq
    refine pi2 fn32 ?_
    (repeat' first | (refine Owe.same ?_; first | refine Owe.o ?_ | refine Owe.mk ?_ ?_) | (refine Fork.same ?_; (first | refine fkY ?_ | refine fkF ?_ | ((first | refine fkD ?_ ?_ | refine fkN ?_ ?_ | refine fkM ?_ ?_) <;> intro h))) | ((first | refine OpsL.same ?_ | refine OpsDL.same ?_); first | refine oK c1 rfl rfl rfl ?_ | refine oK c2 rfl rfl rfl ?_) | refine MvQ.stay ?_)
    (refine rqK rfl ?_; (repeat' first | exact rfl | (refine qS ?_; constructor)))
    all_goals (try omega)
end Go.Pw

set_option linter.unusedSimpArgs false
set_option linter.unusedVariables false
set_option maxHeartbeats 4000000
namespace Go.Pw
set_option maxRecDepth 2000
open Go Go.Proofs A1 A2 A3 A4
theorem C82 {s : Si} {n a : Int} : (s.ti.length ≤ 1000000 ∧ (∀ k, k < s.ti.length → isN (s.ti.getD k (0, 0, 0)).2.2) ∧ -1000000000 ≤ n ∧ n ≤ 1000000000) → PFD Tryz.prog 82 [siv s, vi .i64 n, vi .i64 a] (vi .i64 (swF s.ti n a)) := fun ⟨hl, hs, hn⟩ => by
  obtain ⟨q, hq⟩ : ∃ q, q = swF s.ti n a := ⟨_, rfl⟩
  rw [← hq]
  rw [swF] at hq
  refine pi1 fn82 ?_
  (repeat' first | (refine Owe.same ?_; first | refine Owe.o ?_ | refine Owe.mk ?_ ?_) | (refine Fork.same ?_; (first | refine fkD ?_ ?_ | refine fkN ?_ ?_ | refine fkM ?_ ?_) <;> intro h) | refine MvQ.stay ?_)
  · rw [if_pos h] at hq; subst hq; (refine rqK rfl ?_; (repeat' first | exact rfl | (refine qS ?_; constructor)))
  · rw [if_neg h] at hq
    refine Sat.lp0 (fun k : Nat => [(7, vi .i64 k), (3, .c (.rp (siD s))), (1, vi .i64 n), (2, vi .i64 a)]) (fun k => k ≤ s.ti.length ∧ q = swL n a (s.ti.drop k)) (fun k => s.ti.length - k) 0 ⟨Nat.zero_le _, hq⟩ (by ((first | refine qen ?_ | refine qvs ?_ | refine qeq ?_ | refine qst ?_ | refine qv ?_ | refine qc ?_ | refine qe ?_ | refine qcs ?_ | skip); (repeat' first | exact rfl | (refine qS ?_; constructor)))) ?_
    intro k hk
    refine Fork.dec (fun hlt => ?_) (fun hlt => ?_)
    · have hlt : k < s.ti.length := by omega
      have h1 : isN (s.ti.getD k (0, 0, 0)).2.2 := hs k hlt
      have e := swL_drop n a s.ti k hlt
      rw [← hk.2] at e
      (repeat' first | (refine Owe.same ?_; first | refine Owe.o ?_ | refine Owe.mk ?_ ?_) | (refine Fork.same ?_; (first | refine fkD ?_ ?_ | refine fkN ?_ ?_ | refine fkM ?_ ?_) <;> intro h) | ((first | refine OpsL.same ?_ | refine OpsDL.same ?_); first | refine pK C75 rfl rfl ?_) | refine MvQ.stay ?_)
      · have h : (s.ti.getD k (0, 0, 0)).1 ≤ a ∧ a ≤ (s.ti.getD k (0, 0, 0)).2.1 := h
        rw [if_pos h] at e; subst e
        (refine rqK rfl ?_; (repeat' first | exact rfl | (refine qS ?_; constructor)))
      · have h : ¬ ((s.ti.getD k (0, 0, 0)).1 ≤ a ∧ a ≤ (s.ti.getD k (0, 0, 0)).2.1) := h
        rw [if_neg h] at e
        exact again0 (k + 1) ⟨hlt, e⟩ (by omega) (by ((first | refine qen ?_ | refine qvs ?_ | refine qeq ?_ | refine qst ?_ | refine qv ?_ | refine qc ?_ | refine qe ?_ | refine qcs ?_ | skip); (repeat' first | exact rfl | (refine qS ?_; constructor))))
    · have e := hk.2
      rw [List.drop_of_length_le (by omega)] at e
      (repeat' first | (refine Owe.same ?_; first | refine Owe.o ?_ | refine Owe.mk ?_ ?_) | (refine Fork.same ?_; (first | refine fkD ?_ ?_ | refine fkN ?_ ?_ | refine fkM ?_ ?_) <;> intro h) | refine MvQ.stay ?_)
      subst e
      (refine rqK rfl ?_; (repeat' first | exact rfl | (refine qS ?_; constructor)))
theorem C76 {s : Si} {t : St8} : DvB s t → PFD Tryz.prog 76 [siv s, stv t] (.agg [int (hmT s t), int (hmT s t * s.swim)]) := fun h => by
  have hb := hmT_bd h
  have h1 := h.pl
  have h2 := h.ok.m
  have h3 := (h.ok.r t.p.toNat (by omega)).1.1
  have h4 := h.ok.e
  have c1 := C82 (s := s) (n := s.ho.getD t.p.toNat 0) (a := t.t) ⟨by omega, fun k hk => (h.ok.u k hk).1.2, by omega⟩
  obtain ⟨n, hn⟩ : ∃ n, n = hmT s t := ⟨_, rfl⟩
  rw [← hn] at hb ⊢
  change PFD Tryz.prog 82 _ (vi .i64 (hmT s t)) at c1
  rw [← hn] at c1
  have hm := mbd (a := n) (A := 20000) (by omega) (b := s.swim) (B := 10000) (by omega)
  refine pi1 fn76 ?_
  (repeat' first | (refine Owe.same ?_; first | refine Owe.o ?_ | refine Owe.mk ?_ ?_) | (refine Fork.same ?_; (first | refine fkD ?_ ?_ | refine fkN ?_ ?_ | refine fkM ?_ ?_) <;> intro h) | ((first | refine OpsL.same ?_ | refine OpsDL.same ?_); first | refine pK c1 rfl rfl ?_) | refine MvQ.stay ?_)
  (refine rqK rfl ?_; (repeat' first | exact rfl | (refine qS ?_; constructor)))
theorem C28 {s : Si} {t : St8} : DvB s t → PFD Tryz.prog 28 [siv s, stv t] (vbl (reB s t)) := fun h => by
  have hb := hmT_bd h
  have h1 := h.tm
  have h2 := h.en
  have h4 := h.ok.e
  have hm := mbd (a := hmT s t) (A := 20000) (by omega) (b := s.swim) (B := 10000) (by omega)
  have c1 := C76 h
  refine pi1 fn28 ?_
  (repeat' first | (refine Owe.same ?_; first | refine Owe.o ?_ | refine Owe.mk ?_ ?_) | (refine Fork.same ?_; (first | refine fkD ?_ ?_ | refine fkN ?_ ?_ | refine fkM ?_ ?_) <;> intro h) | ((first | refine OpsL.same ?_ | refine OpsDL.same ?_); first | refine pK c1 rfl rfl ?_) | refine MvQ.stay ?_)
  · (refine rqK rfl ?_; (repeat' first | exact rfl | (refine qS ?_; constructor)))
    rw [reB]; exact decide_eq_decide.2 ⟨fun hh => ⟨h, hh⟩, fun hh => hh.2⟩
  · (refine rqK rfl ?_; (repeat' first | exact rfl | (refine qS ?_; constructor)))
    have hf : reB s t = false := decide_eq_false fun hh => h hh.1
    exact hf
end Go.Pw

set_option linter.unusedSimpArgs false
set_option linter.unusedVariables false
set_option maxHeartbeats 4000000
namespace Go.Pw
set_option maxRecDepth 2000
open Go Go.Proofs A1 A2 A3 A4
end Go.Pw

set_option linter.unusedSimpArgs false
set_option linter.unusedVariables false
set_option maxHeartbeats 4000000
namespace Go.Pw
set_option maxRecDepth 2000
open Go Go.Proofs A1 A2 A3 A4
theorem OnOk.on {s : Si} {t : St8} (h : OnOk s t) (h0 : (siE s).2 = 0) : onE s t = 0 := by
  rw [onE_eq h0, rsE, if_pos (by have := h.pl; omega), if_pos ⟨⟨h.tm, h.en⟩, h.oil⟩]
  exact h.d
theorem nx_facts {s : Si} {t : St8} {n : Int} (h : OnOk s t) (he : spE s t n = 0) :
    (OnOk s (spS s t n) ∧ reB s (spS s t n) = true) ∧ t.t ≤ (spS s t n).t ∧ (spS s t n).w ≤ t.w ∧ (spS s t n).o ≤ t.o ∧ (spS s t n).d.length = t.d.length + 1 ∧ n ∉ t.d ∧ ∀ m, m ∈ (spS s t n).d ↔ m = n ∨ m ∈ t.d := by
  obtain ⟨⟨e, h1, h2, h3⟩, h4, h5⟩ := spS_ok h he
  rw [e]
  have hB := (h.ok.t n.toNat (by omega)).b
  have hsw := trT_bd (p := (tkA s n).p) h
  have h7 := h.ok.e
  obtain ⟨b5, b6, b7, b8, b9, b10⟩ := hB
  have m2 : 0 ≤ trT s t (tkA s n).p * s.swim := Int.mul_nonneg hsw.1 (by omega)
  have m3 : 0 ≤ (max (t.t + trT s t (tkA s n).p) (tkA s n).lo - (t.t + trT s t (tkA s n).p)) * s.idle := Int.mul_nonneg (by omega) (by omega)
  rw [spF, fst2, unb_ok (by decide), unb_ok (by decide)] at h2
  have hx : n ∉ t.d := by simpa using h2.1
  have hr : reB s (nxS s t n) = true := by
    rw [nxE, nxF, fst3, unl0 (by decide), unl0 (by decide), unb_ok (by decide)] at h1
    exact h1.2.2
  refine ⟨⟨h4, hr⟩, ?_, ?_, ?_, h5, hx, fun m => insI_mem⟩
  · show t.t ≤ max (t.t + trT s t (tkA s n).p) (tkA s n).lo + (tkA s n).d
    simp only [tkA] at *
    omega
  · show t.w - (trT s t (tkA s n).p * s.swim + (max (t.t + trT s t (tkA s n).p) (tkA s n).lo - (t.t + trT s t (tkA s n).p)) * s.idle + (tkA s n).w) ≤ t.w
    simp only [tkA] at *
    omega
  · show t.o - (tkA s n).o ≤ t.o
    simp only [tkA] at *
    omega
end Go.Pw

set_option linter.unusedSimpArgs false
set_option linter.unusedVariables false
set_option maxHeartbeats 4000000
namespace Go.Pw
set_option maxRecDepth 2000
open Go Go.Proofs A1 A2 A3 A4
theorem split_at {l : List Int} {k : Nat} (hk : k < l.length) : l = l.take k ++ l.getD k 0 :: l.drop (k + 1) := by
  rw [List.getD_eq_getElem?_getD, List.getElem?_eq_getElem hk]
  show l = l.take k ++ l[k] :: l.drop (k + 1)
  rw [← List.drop_eq_getElem_cons hk, List.take_append_drop]
theorem wo_filter {l : List Int} {k : Nat} (h : l.Nodup) (hk : k < l.length) : wo l k = l.filter fun x => decide (x ≠ l.getD k 0) := by
  have hn := wo_not h hk
  obtain ⟨x, hx⟩ : ∃ x, x = l.getD k 0 := ⟨_, rfl⟩
  have e := split_at hk
  rw [← hx] at e hn ⊢
  have hw : wo l k = l.take k ++ l.drop (k + 1) := rfl
  rw [hw] at hn ⊢
  conv => rhs; rw [e]
  rw [List.filter_append, List.filter_cons_of_neg (by simp)]
  have h1 : ∀ y ∈ l.take k, decide (y ≠ x) = true := fun y hy => decide_eq_true fun e => hn (e ▸ List.mem_append_left _ hy)
  have h2 : ∀ y ∈ l.drop (k + 1), decide (y ≠ x) = true := fun y hy => decide_eq_true fun e => hn (e ▸ List.mem_append_right _ hy)
  rw [List.filter_eq_self.2 h1, List.filter_eq_self.2 h2]
theorem fst_le {a b c : Int} (h : fstE [cmpI a b, c] < 0) : a ≤ b := by
  rcases Int.lt_trichotomy a b with h1 | h1 | h1
  · omega
  · omega
  · rw [cmpI, if_neg (by omega), if_pos h1, fstE, if_neg (by decide)] at h
    omega
theorem fst_lt {a b c : Int} (h : a < b) : fstE [cmpI a b, c] < 0 := by
  rw [cmpI, if_pos h, fstE, if_neg (by decide)]; decide
end Go.Pw

set_option linter.unusedSimpArgs false
set_option linter.unusedVariables false
set_option maxHeartbeats 4000000
namespace Go.Pw
set_option maxRecDepth 2000
open Go Go.Proofs A1 A2 A3 A4
end Go.Pw

set_option linter.unusedVariables false
set_option maxHeartbeats 2000000
set_option maxRecDepth 100000
namespace Go.Pw
open Go Go.Proofs
end Go.Pw

set_option linter.unusedSimpArgs false
set_option linter.unusedVariables false
set_option maxHeartbeats 4000000
namespace Go.Pw
set_option maxRecDepth 2000
open Go Go.Proofs A1 A2 A3 A4
end Go.Pw

set_option linter.unusedVariables false
set_option maxHeartbeats 2000000
set_option maxRecDepth 100000
namespace Go.Pw
open Go Go.Proofs
end Go.Pw

set_option linter.unusedSimpArgs false
set_option linter.unusedVariables false
set_option maxHeartbeats 8000000
namespace Go.Pw
set_option maxRecDepth 2000
open Go Go.Proofs A1 A2 A3 A4
/-- A function of data takes a row of one's own, which is closed by that. -/
theorem CallD.frz {P : Program} {f : FuncId} {args args' : List V} {v : V} {id nx : Nat} {e : TypeId} {s m n : Nat} {g : Nat → List D} (h : PFD P f args' v) (hn : n ≤ m) (hlen : args.length = args'.length)
    (ha : ∀ (i : Nat) a a', args[i]? = some a → args'[i]? = some a' → (a = .c (.ms id n) ∧ a' = .c (.d (.sl s n g))) ∨ RI a a') : CallD P f args [(id, .row e s m g false)] nx v [] nx := by
  refine ⟨h.h.1, Nat.le_refl _, fun Γ w us hst _ hr => ?_⟩
  have hg : get [(id, Ent.row e s m g false)] id = some (.row e s m g false) := get_cons_same
  obtain ⟨b, hb, hok⟩ := hst.ok id _ hg
  have h1 := hst.freeze hg hb
  have hle : CxLe Γ (Γ.also fun k => k = b ∧ ∃ c, Γ.κ id = some c) := CxLe.also _ _
  have h2 : StoreOk (Γ.also fun k => k = b ∧ ∃ c, Γ.κ id = some c) w [] := storeOk_nil h1.im
  have hr' : RepL (Γ.also fun k => k = b ∧ ∃ c, Γ.κ id = some c) w args' us := by
    refine ⟨by rw [hr.1, hlen], fun i a' u ha' hu => ?_⟩
    have hi : i < args.length := by rw [hlen]; exact (List.getElem?_eq_some_iff.1 ha').1
    have hx := hr.2 i args[i] u (List.getElem?_eq_getElem hi) hu
    rcases ha i _ a' (List.getElem?_eq_getElem hi) ha' with ⟨e1, e2⟩ | hri
    · rw [e1] at hx
      subst e2
      cases hx with
      | c _ _ hx =>
        obtain ⟨b', hb', hd⟩ := ms_data hst hg hn hx
        rw [hb] at hb'; cases hb'
        exact .c _ _ (hd _ (fun k hk => .inl hk) (fun hc => .inr ⟨rfl, hc⟩))
    · exact hri _ _ _ (hx.mono hle (fun _ _ => rfl))
  refine (h.h.2.2 _ w us h2 (fun id _ h => absurd h (Nat.not_lt_zero _)) hr').mono fun e' w' ⟨u, Γ', q1, q2, q3, q4, q5, q6⟩ => ⟨u, Γ', q1, q2, q3, hle.trans q4, fun j _ => q5 j (by omega), ?_⟩
  refine Ext.trans (Γ' := Γ.also fun k => k = b ∧ ∃ c, Γ.κ id = some c) (w' := w) (σ' := []) ⟨rfl, rfl, rfl, Nat.le_refl _, fun k hk => .inl hk, fun k hk => ?_, fun _ _ => rfl, fun _ _ => rfl, fun _ _ _ => rfl, fun k hk => absurd hk not_live_nil⟩ q6
  rcases hk with hk | ⟨rfl, hcc⟩
  · exact .inl hk
  · rcases hst.or_live hg hb hcc with h3 | h3
    · exact .inl h3
    · exact .inr (.inr ⟨id, h3, hb⟩)
theorem DI.e {s s' : Nat} {f g : Nat → List D} : DI (.sl s 0 f) (.sl s' 0 g) := fun I w u h => by
  cases h with
  | slE => exact .slE _ _ _ _
  | sl _ _ _ ad c U hn hI hs hc hr => exact .slE _ _ _ _
/-- What is done or given is all but a set. -/
def Gv (s : Si) (t : St8) (l g : List Int) : Prop := ∀ m : Int, 0 ≤ m → m < s.tk.length → ((m ∈ t.d ∨ m ∈ g) ↔ m ∉ l)
theorem Gv.wo {s : Si} {t : St8} {l g : List Int} {k : Nat} (h : Gv s t l g) (hu : l.Nodup) (hk : k < l.length) (hd : ∀ m, m ∈ (nxS s t (l.getD k 0)).d ↔ m = l.getD k 0 ∨ m ∈ t.d) : Gv s (nxS s t (l.getD k 0)) (wo l k) g := fun m h0 h1 => by
  rw [hd, or_assoc, h m h0 h1, wo_filter hu hk, List.mem_filter]
  constructor
  · rintro (e | h2) ⟨h3, h4⟩
    · exact of_decide_eq_true h4 e
    · exact h2 h3
  · intro hm
    by_cases e : m = l.getD k 0
    · exact .inl e
    · exact .inr fun h2 => hm ⟨h2, decide_eq_true e⟩
theorem anyN_ext {f g : Nat → Bool} : ∀ {n : Nat}, (∀ i, i < n → f i = g i) → anyN f n = anyN g n
  | 0, _ => rfl
  | n + 1, h => by rw [anyN, anyN, anyN_ext fun i hi => h i (by omega), h n (by omega)]
end Go.Pw

set_option linter.unusedSimpArgs false
set_option linter.unusedVariables false
set_option maxHeartbeats 8000000
namespace Go.Pw
set_option maxRecDepth 2000
open Go Go.Proofs A1 A2 A3 A4
end Go.Pw

set_option linter.unusedSimpArgs false
set_option linter.unusedVariables false
set_option maxHeartbeats 8000000
namespace Go.Pw
set_option maxRecDepth 2000
open Go Go.Proofs A1 A2 A3 A4
end Go.Pw

set_option linter.unusedSimpArgs false
set_option linter.unusedVariables false
set_option maxHeartbeats 8000000
namespace Go.Pw
set_option maxRecDepth 2000
open Go Go.Proofs A1 A2 A3 A4
mutual
/-- The best plan of those that begin with a plan, of the permitted tasks. -/
def gpF (pm : Nat → Bool) (s : Si) : Nat → St8 → List Int → List Int × Int → List Int × Int
  | 0, _, p, b => updP s p b
  | f + 1, t, p, b => gpK pm s f t p (updP s p b) s.tk.length
def gpK (pm : Nat → Bool) (s : Si) (f : Nat) (t : St8) (p : List Int) (b : List Int × Int) : Nat → List Int × Int
  | 0 => b
  | k + 1 => if pm k = true ∧ spE s t k = 0 then gpF pm s f (spS s t k) (p ++ [(k : Int)]) (gpK pm s f t p b k) else gpK pm s f t p b k
end
abbrev gstp (g : FuncId) (rows : List (List D)) (s : Si) (t0 : St8) (b : List Int × Int) : Store :=
  [(6, .box [.fn 126 [5, 3, 6]]), (5, .box [.yd 4]), (4, .lp [(2, .c (.rp (diD s t0))), (6, .c (.bp 0 0)), (7, .c (.bp 1 0)), (12, .c (.fn 125 [3, 2]))] .ready none (RR Tryz.prog 26 [13] ra67 rb67)), (3, .box [.fnR g rows]), (1, .box [int b.2]), (0, .box [ints b.1])]
theorem G120p {g : FuncId} {rows : List (List D)} {pm : Nat → Bool} {s : Si} {t0 : St8} (hg : ∀ k, k < s.tk.length → PFD Tryz.prog g (vi .i64 k :: rows.map fun r => .c (.rp r)) (vbl (pm k))) (hO : SiOk s) (hs : TkSm s.tk) (hst : ∀ {t : St8} {k : Nat}, OnOk s t → spE s t k = 0 → OnOk s (spS s t k) ∧ (spS s t k).d.length = t.d.length + 1) (hd : ∀ {t : St8}, OnOk s t → t.d.length ≤ s.tk.length) :
    ∀ (f : Nat) (t : St8) (p : List Int) (b : List Int × Int), OnOk s t → s.tk.length + 1 ≤ f + t.d.length → tkNs s p → p.length + s.tk.length ≤ 100 + t.d.length →
      CallD Tryz.prog 126 [div s t, .c (ints p), .c (.bp 5 0), .c (.bp 3 0), .c (.bp 6 0)] (gstp g rows s t0 b) 7 (.c .tru) (gstp g rows s t0 (gpF pm s f t p b)) 7
  | 0, t, p, b, h, hf, _, _ => by have := hd h; omega
  | f + 1, t, p, b, h, hf, hp, hl => by
    have h6 := hO.n
    have hdl := hd h
    have HO := h
    have c1 := C81 (s := s) (l := p) ⟨hO, hp, by omega⟩
    refine CallD.of (vs := [.c .tru]) fn126m rfl rfl (by (refine qis ?_ ?_ <;> (repeat' first | exact rfl | (refine qS ?_; constructor)))) ?_
    refine Ops.yd rfl rfl rfl rfl rfl ?_
    (repeat' first | (refine Owe.same ?_; first | refine Owe.o ?_ | refine Owe.mk ?_ ?_) | (refine Fork.same ?_; (first | refine fkD ?_ ?_ | refine fkN ?_ ?_ | refine fkM ?_ ?_) <;> intro h) | refine MvQ.stay ?_)
    refine And.intro rfl (Exists.intro _ (And.intro rfl ?_))
    (repeat' first | (refine Owe.same ?_; first | refine Owe.o ?_ | refine Owe.mk ?_ ?_) | (refine Fork.same ?_; (first | refine fkD ?_ ?_ | refine fkN ?_ ?_ | refine fkM ?_ ?_) <;> intro h) | ((first | refine OpsL.same ?_ | refine OpsDL.same ?_); first | refine pK c1 rfl rfl ?_ | refine pK (C80d (l := p) (by omega)) rfl rfl ?_) | refine MvQ.stay ?_)
    · rename_i h0
      have e : updP s p b = (p, vaI s p) := if_pos h
      refine Exists.intro _ (Exists.intro _ (Exists.intro _ (And.intro rfl ?_)))
      (repeat' first | (refine Owe.same ?_; first | refine Owe.o ?_ | refine Owe.mk ?_ ?_) | (refine Fork.same ?_; (first | refine fkD ?_ ?_ | refine fkN ?_ ?_ | refine fkM ?_ ?_) <;> intro h) | refine MvQ.stay ?_)
      refine Sat.lp (fun ((k, B) : Nat × List Int × Int) => ⟨[(19, vi .i64 k), (18, vi .i64 s.tk.length), (5, .c (.rp (diD s t))), (1, .c (ints p)), (2, .c (.bp 5 0)), (3, .c (.bp 3 0)), (4, .c (.bp 6 0))], gstp g rows s t0 B, 7⟩) (fun ((k, B) : Nat × List Int × Int) => k ≤ s.tk.length ∧ B = gpK pm s f t p (p, vaI s p) k) (fun ((k, _) : Nat × List Int × Int) => s.tk.length - k) (0, (p, vaI s p)) [] ⟨Nat.zero_le _, by rw [gpK]⟩ ?_ ?_
      · (refine qis ?_ ?_ <;> (repeat' first | exact rfl | (refine qS ?_; constructor)))
      · intro ⟨k, B⟩ ⟨hk, hB⟩
        refine Fork.dec (fun hlt => ?_) (fun hlt => ?_)
        · have hlt : k < s.tk.length := by omega
          have c2 := C78 (s := s) (t := t) (n := (k : Int)) ⟨HO, by omega, hs⟩
          obtain ⟨E, hE⟩ : ∃ E, E = spE s t (k : Int) := ⟨_, rfl⟩
          rw [← hE] at c2
          have c3 := C127 (l := p) (by omega)
          have c0 := hg k hlt
          rcases hpm : pm k with _ | _
          · rw [hpm] at c0
            (repeat' first | (refine Owe.same ?_; first | refine Owe.o ?_ | refine Owe.mk ?_ ?_) | (refine Fork.same ?_; (first | refine fkD ?_ ?_ | refine fkN ?_ ?_ | refine fkM ?_ ?_) <;> intro h) | ((first | refine OpsL.same ?_ | refine OpsDL.same ?_); first | refine pR c0 rfl rfl ?_) | refine MvQ.stay ?_)
            rotate_left
            · exact absurd h (by decide)
            have hB2 : B = gpK pm s f t p (p, vaI s p) (k + 1) := by rw [gpK, if_neg (fun hh => by rw [hpm] at hh; cases hh.1), ← hB]
            refine again (k + 1, B) [] ⟨hlt, hB2⟩ (by show s.tk.length - (k + 1) < s.tk.length - k; omega) ?_
            (refine qis ?_ ?_ <;> (repeat' first | exact rfl | (refine qS ?_; constructor)))
          rw [hpm] at c0
          (repeat' first | (refine Owe.same ?_; first | refine Owe.o ?_ | refine Owe.mk ?_ ?_) | (refine Fork.same ?_; (first | refine fkD ?_ ?_ | refine fkN ?_ ?_ | refine fkM ?_ ?_) <;> intro h) | ((first | refine OpsL.same ?_ | refine OpsDL.same ?_); first | refine pR c0 rfl rfl ?_) | refine MvQ.stay ?_)
          · exact absurd h (by decide)
          (repeat' first | (refine Owe.same ?_; first | refine Owe.o ?_ | refine Owe.mk ?_ ?_) | (refine Fork.same ?_; (first | refine fkD ?_ ?_ | refine fkN ?_ ?_ | refine fkM ?_ ?_) <;> intro h) | ((first | refine OpsL.same ?_ | refine OpsDL.same ?_); first | refine pK c2 rfl rfl ?_ | refine pK c3 rfl rfl ?_) | refine MvQ.stay ?_)
          · have hz : spE s t (k : Int) = 0 := hE.symm.trans h
            have h1 := hst HO hz
            have h2 : tkNs s (p ++ [(k : Int)]) := tkNs_app hp ⟨by omega, by omega⟩
            refine OpsDL.cm (gstp g rows s t0 B) _ ((G120p hg hO hs hst hd f (spS s t k) (p ++ [(k : Int)]) B h1.1 (by omega) h2 (by rw [List.length_append]; show p.length + 1 + _ ≤ _; omega)).at _) (sub_cons rfl (sub_cons rfl (sub_cons rfl (sub_cons rfl (sub_cons rfl (sub_cons rfl sub_nil)))))) rfl rfl ?_ ?_
            · refine VEqs.ris (qvs ?_)
              (repeat' first | exact rfl | (refine qS ?_; constructor))
              exact ⟨_, rfl, rfl⟩
            · (repeat' first | (refine Owe.same ?_; first | refine Owe.o ?_ | refine Owe.mk ?_ ?_) | (refine Fork.same ?_; (first | refine fkD ?_ ?_ | refine fkN ?_ ?_ | refine fkM ?_ ?_) <;> intro h) | refine MvQ.stay ?_)
              have hB2 : gpF pm s f (spS s t k) (p ++ [(k : Int)]) B = gpK pm s f t p (p, vaI s p) (k + 1) := by rw [gpK, if_pos ⟨hpm, hz⟩, ← hB]
              refine again (k + 1, _) [] ⟨hlt, hB2⟩ (by show s.tk.length - (k + 1) < s.tk.length - k; omega) ?_
              (refine qis ?_ ?_ <;> (repeat' first | exact rfl | (refine qS ?_; constructor)))
          · have hB2 : B = gpK pm s f t p (p, vaI s p) (k + 1) := by rw [gpK, if_neg (fun hh => h (hE.trans hh.2)), ← hB]
            refine again (k + 1, B) [] ⟨hlt, hB2⟩ (by show s.tk.length - (k + 1) < s.tk.length - k; omega) ?_
            (refine qis ?_ ?_ <;> (repeat' first | exact rfl | (refine qS ?_; constructor)))
        · have hkk : k = s.tk.length := by omega
          have hfin : gpF pm s (f + 1) t p b = B := by rw [gpF, e, ← hkk, hB]
          rw [hfin]
          (repeat' first | (refine Owe.same ?_; first | refine Owe.o ?_ | refine Owe.mk ?_ ?_) | (refine Fork.same ?_; (first | refine fkD ?_ ?_ | refine fkN ?_ ?_ | refine fkM ?_ ?_) <;> intro h) | refine MvQ.stay ?_)
          exact RetQ.is rfl
    · have e : updP s p b = b := if_neg h
      refine Exists.intro _ (Exists.intro _ (Exists.intro _ (And.intro rfl ?_)))
      (repeat' first | (refine Owe.same ?_; first | refine Owe.o ?_ | refine Owe.mk ?_ ?_) | (refine Fork.same ?_; (first | refine fkD ?_ ?_ | refine fkN ?_ ?_ | refine fkM ?_ ?_) <;> intro h) | refine MvQ.stay ?_)
      refine Sat.lp (fun ((k, B) : Nat × List Int × Int) => ⟨[(19, vi .i64 k), (18, vi .i64 s.tk.length), (5, .c (.rp (diD s t))), (1, .c (ints p)), (2, .c (.bp 5 0)), (3, .c (.bp 3 0)), (4, .c (.bp 6 0))], gstp g rows s t0 B, 7⟩) (fun ((k, B) : Nat × List Int × Int) => k ≤ s.tk.length ∧ B = gpK pm s f t p b k) (fun ((k, _) : Nat × List Int × Int) => s.tk.length - k) (0, b) [] ⟨Nat.zero_le _, by rw [gpK]⟩ ?_ ?_
      · (refine qis ?_ ?_ <;> (repeat' first | exact rfl | (refine qS ?_; constructor)))
      · intro ⟨k, B⟩ ⟨hk, hB⟩
        refine Fork.dec (fun hlt => ?_) (fun hlt => ?_)
        · have hlt : k < s.tk.length := by omega
          have c2 := C78 (s := s) (t := t) (n := (k : Int)) ⟨HO, by omega, hs⟩
          obtain ⟨E, hE⟩ : ∃ E, E = spE s t (k : Int) := ⟨_, rfl⟩
          rw [← hE] at c2
          have c3 := C127 (l := p) (by omega)
          have c0 := hg k hlt
          rcases hpm : pm k with _ | _
          · rw [hpm] at c0
            (repeat' first | (refine Owe.same ?_; first | refine Owe.o ?_ | refine Owe.mk ?_ ?_) | (refine Fork.same ?_; (first | refine fkD ?_ ?_ | refine fkN ?_ ?_ | refine fkM ?_ ?_) <;> intro h) | ((first | refine OpsL.same ?_ | refine OpsDL.same ?_); first | refine pR c0 rfl rfl ?_) | refine MvQ.stay ?_)
            rotate_left
            · exact absurd h (by decide)
            have hB2 : B = gpK pm s f t p b (k + 1) := by rw [gpK, if_neg (fun hh => by rw [hpm] at hh; cases hh.1), ← hB]
            refine again (k + 1, B) [] ⟨hlt, hB2⟩ (by show s.tk.length - (k + 1) < s.tk.length - k; omega) ?_
            (refine qis ?_ ?_ <;> (repeat' first | exact rfl | (refine qS ?_; constructor)))
          rw [hpm] at c0
          (repeat' first | (refine Owe.same ?_; first | refine Owe.o ?_ | refine Owe.mk ?_ ?_) | (refine Fork.same ?_; (first | refine fkD ?_ ?_ | refine fkN ?_ ?_ | refine fkM ?_ ?_) <;> intro h) | ((first | refine OpsL.same ?_ | refine OpsDL.same ?_); first | refine pR c0 rfl rfl ?_) | refine MvQ.stay ?_)
          · exact absurd h (by decide)
          (repeat' first | (refine Owe.same ?_; first | refine Owe.o ?_ | refine Owe.mk ?_ ?_) | (refine Fork.same ?_; (first | refine fkD ?_ ?_ | refine fkN ?_ ?_ | refine fkM ?_ ?_) <;> intro h) | ((first | refine OpsL.same ?_ | refine OpsDL.same ?_); first | refine pK c2 rfl rfl ?_ | refine pK c3 rfl rfl ?_) | refine MvQ.stay ?_)
          · have hz : spE s t (k : Int) = 0 := hE.symm.trans h
            have h1 := hst HO hz
            have h2 : tkNs s (p ++ [(k : Int)]) := tkNs_app hp ⟨by omega, by omega⟩
            refine OpsDL.cm (gstp g rows s t0 B) _ ((G120p hg hO hs hst hd f (spS s t k) (p ++ [(k : Int)]) B h1.1 (by omega) h2 (by rw [List.length_append]; show p.length + 1 + _ ≤ _; omega)).at _) (sub_cons rfl (sub_cons rfl (sub_cons rfl (sub_cons rfl (sub_cons rfl (sub_cons rfl sub_nil)))))) rfl rfl ?_ ?_
            · refine VEqs.ris (qvs ?_)
              (repeat' first | exact rfl | (refine qS ?_; constructor))
              exact ⟨_, rfl, rfl⟩
            · (repeat' first | (refine Owe.same ?_; first | refine Owe.o ?_ | refine Owe.mk ?_ ?_) | (refine Fork.same ?_; (first | refine fkD ?_ ?_ | refine fkN ?_ ?_ | refine fkM ?_ ?_) <;> intro h) | refine MvQ.stay ?_)
              have hB2 : gpF pm s f (spS s t k) (p ++ [(k : Int)]) B = gpK pm s f t p b (k + 1) := by rw [gpK, if_pos ⟨hpm, hz⟩, ← hB]
              refine again (k + 1, _) [] ⟨hlt, hB2⟩ (by show s.tk.length - (k + 1) < s.tk.length - k; omega) ?_
              (refine qis ?_ ?_ <;> (repeat' first | exact rfl | (refine qS ?_; constructor)))
          · have hB2 : B = gpK pm s f t p b (k + 1) := by rw [gpK, if_neg (fun hh => h (hE.trans hh.2)), ← hB]
            refine again (k + 1, B) [] ⟨hlt, hB2⟩ (by show s.tk.length - (k + 1) < s.tk.length - k; omega) ?_
            (refine qis ?_ ?_ <;> (repeat' first | exact rfl | (refine qS ?_; constructor)))
        · have hkk : k = s.tk.length := by omega
          have hfin : gpF pm s (f + 1) t p b = B := by rw [gpF, e, ← hkk, hB]
          rw [hfin]
          (repeat' first | (refine Owe.same ?_; first | refine Owe.o ?_ | refine Owe.mk ?_ ?_) | (refine Fork.same ?_; (first | refine fkD ?_ ?_ | refine fkN ?_ ?_ | refine fkM ?_ ?_) <;> intro h) | refine MvQ.stay ?_)
          exact RetQ.is rfl
/-- The best plan of the permitted tasks, and its value. -/
abbrev bestPp (pm : Nat → Bool) (s : Si) (t : St8) : List Int × Int := gpF pm s (s.tk.length + 1) t [] ([], 0)
theorem C67p {g : FuncId} {rows : List (List D)} {pm : Nat → Bool} {s : Si} {t : St8} (hg : ∀ k, k < s.tk.length → PFD Tryz.prog g (vi .i64 k :: rows.map fun r => .c (.rp r)) (vbl (pm k))) : (OnOk s t ∧ TkSm s.tk) → PFD Tryz.prog 67 [div s t, .c (.fnR g rows)] (.tup [.c (ints (bestPp pm s t).1), vi .i64 (bestPp pm s t).2]) := fun ⟨h, hs⟩ => by
  have h6 := h.ok.n
  have gg := G120p hg (t0 := t) h.ok hs (fun {t' k} h1 h2 => by
    obtain ⟨⟨e, _⟩, h3, h4⟩ := spS_ok h1 h2
    rw [e]; exact ⟨h3, h4⟩) (fun h => h.dl) (s.tk.length + 1) t [] ([], 0) h (by omega) (fun k hk => by cases hk) (by show 0 + _ ≤ _; omega)
  obtain ⟨B, hB⟩ : ∃ B, B = bestPp pm s t := ⟨_, rfl⟩
  change CallD _ _ _ _ _ _ (gstp g rows s t (bestPp pm s t)) _ at gg
  rw [← hB] at gg ⊢
  refine pi2 fn67 ?_
  (repeat' first | (refine Owe.same ?_; first | refine Owe.o ?_ | refine Owe.mk ?_ ?_) | (refine Fork.same ?_; (first | refine fkD ?_ ?_ | refine fkN ?_ ?_ | refine fkM ?_ ?_) <;> intro h) | refine MvQ.stay ?_)
  refine Ops.cs rfl rfl (CallS.of fn103 rfl ?_)
  (repeat' first | (refine Owe.same ?_; first | refine Owe.o ?_ | refine Owe.mk ?_ ?_) | (refine Fork.same ?_; (first | refine fkD ?_ ?_ | refine fkN ?_ ?_ | refine fkM ?_ ?_) <;> intro h) | refine MvQ.stay ?_)
  refine Sat.keep [2, 6, 7, 12] ?_
  refine Sat.rf rfl rfl (CallS.of fn125 rfl ?_)
  (repeat' first | (refine Owe.same ?_; first | refine Owe.o ?_ | refine Owe.mk ?_ ?_) | (refine Fork.same ?_; (first | refine fkD ?_ ?_ | refine fkN ?_ ?_ | refine fkM ?_ ?_) <;> intro h) | refine MvQ.stay ?_)
  refine OpsL.is7 (⟨[(6, .c (.fn 126 [5, 3, 6])), (7, div s t)], [(6, .box [.fn 126 [5, 3, 6]]), (5, .box [.yd 4]), (4, .lp [(2, .c (.rp (diD s t))), (6, .c (.bp 0 0)), (7, .c (.bp 1 0)), (12, .c (.fn 125 [3, 2]))] .ready none (RR Tryz.prog 26 [13] ra67 rb67)), (3, .box [.fnR g rows]), (2, .box (diC s t)), (1, .box [int 0]), (0, .box [ints []])], 7⟩) ?_ ?_
  · (refine qis ?_ ?_ <;> (repeat' first | exact rfl | (refine qS ?_; constructor)))
  refine OpsL.cmi (gstp g rows s t ([], 0)) _ (gg.at _) (sub_cons rfl (sub_cons rfl (sub_cons rfl (sub_cons rfl (sub_cons rfl (sub_cons rfl sub_nil)))))) rfl rfl ?_ ?_
  · refine VEqs.ris (qvs ?_)
    (repeat' first | exact rfl | (refine qS ?_; constructor))
  · (repeat' first | (refine Owe.same ?_; first | refine Owe.o ?_ | refine Owe.mk ?_ ?_) | (refine Fork.same ?_; (first | refine fkD ?_ ?_ | refine fkN ?_ ?_ | refine fkM ?_ ?_) <;> intro h) | refine MvQ.stay ?_)
    (refine rqK rfl ?_; (repeat' first | exact rfl | (refine qS ?_; constructor)))
end Go.Pw

set_option linter.unusedSimpArgs false
set_option linter.unusedVariables false
set_option maxHeartbeats 8000000
namespace Go.Pw
set_option maxRecDepth 2000
open Go Go.Proofs A1 A2 A3 A4
abbrev pmL (g : List Int) (k : Nat) : Bool := !decide ((k : Int) ∈ g)
end Go.Pw

set_option linter.unusedSimpArgs false
set_option linter.unusedVariables false
set_option maxHeartbeats 8000000
namespace Go.Pw
set_option maxRecDepth 2000
open Go Go.Proofs A1 A2 A3 A4
theorem gpF_ext {pm pm' : Nat → Bool} {s : Si} (h : ∀ k, k < s.tk.length → pm k = pm' k) : ∀ (f : Nat) (t : St8) (p : List Int) (b : List Int × Int), gpF pm s f t p b = gpF pm' s f t p b
  | 0, t, p, b => by rw [gpF, gpF]
  | f + 1, t, p, b => by
    have key : ∀ k, k ≤ s.tk.length → gpK pm s f t p (updP s p b) k = gpK pm' s f t p (updP s p b) k := fun k => by
      induction k with
      | zero => intro _; rw [gpK, gpK]
      | succ k ih => intro hk; rw [gpK, gpK, ih (by omega), gpF_ext h f, h k (by omega)]
    rw [gpF, gpF, key _ (Nat.le_refl _)]
theorem gpF_all {s : Si} : ∀ (f : Nat) (t : St8) (p : List Int) (b : List Int × Int), gpF (fun _ => true) s f t p b = grwF s f t p b
  | 0, t, p, b => by rw [gpF, grwF]
  | f + 1, t, p, b => by
    have key : ∀ k, gpK (fun _ => true) s f t p (updP s p b) k = grwK s f t p (updP s p b) k := fun k => by
      induction k with
      | zero => rw [gpK, grwK]
      | succ k ih => rw [gpK, grwK, ih, gpF_all f]; simp only [true_and]
    rw [gpF, grwF, key]
theorem bestPp_nil {s : Si} {t : St8} : bestPp (pmL []) s t = bestP s t := by
  rw [bestPp, gpF_ext (pm' := fun _ => true) (fun k _ => by simp [pmL]), gpF_all]
/-- Which of the first tasks depend on a task. -/
def dpL (s : Si) (n : Int) : Nat → List Bool
  | 0 => []
  | k + 1 => dpL s n k ++ [(s.tk.getD k tk0).a.any fun x => decide (x = n) || (dpL s n k).getD x.toNat false]
theorem dpL_len {s : Si} {n : Int} : ∀ k, (dpL s n k).length = k
  | 0 => rfl
  | k + 1 => by rw [dpL, List.length_append, dpL_len k]; rfl
theorem dpL_get {s : Si} {n : Int} {i : Nat} : ∀ {k m : Nat}, i < k → k ≤ m → (dpL s n m).getD i false = (dpL s n k).getD i false
  | k, 0, h, h1 => by omega
  | k, m + 1, h, h1 => by
    by_cases e : k = m + 1
    · subst e; rfl
    · have hl := dpL_len (s := s) (n := n) m
      rw [dpL, List.getD_eq_getElem?_getD, List.getElem?_append_left (by omega), ← List.getD_eq_getElem?_getD, dpL_get h (by omega)]
/-- A task depends on one. -/
abbrev dpB (s : Si) (n : Int) (i : Nat) : Bool := (dpL s n s.tk.length).getD i false
theorem dpL_at {s : Si} {n : Int} {i m : Nat} (hm : i < m) (h : m ≤ s.tk.length) : (dpL s n m).getD i false = dpB s n i := (dpL_get hm h).symm
theorem dpB_eq {s : Si} {n : Int} {i : Nat} (hO : SiOk s) (hi : i < s.tk.length) : dpB s n i = (s.tk.getD i tk0).a.any fun x => decide (x = n) || dpB s n x.toNat := by
  have hl := dpL_len (s := s) (n := n) i
  rw [dpB, dpL_get (k := i + 1) (by omega) (by omega), dpL, List.getD_eq_getElem?_getD, List.getElem?_append_right (by omega), hl, Nat.sub_self]
  show (List.any _ _) = _
  obtain ⟨s1, s2⟩ := Srt.of (hO.t i hi).a
  rw [← anyN_mem, ← anyN_mem]
  refine anyN_ext fun j hj => ?_
  have := s2 j hj
  rw [dpL_at (m := i) (by omega) (by omega)]
theorem dpB_lo {s : Si} {n : Int} (hO : SiOk s) : ∀ (i : Nat), i < s.tk.length → (i : Int) ≤ n → dpB s n i = false := fun i => by
  induction i using Nat.strongRecOn with
  | ind i ih =>
    intro hi hn
    rw [dpB_eq hO hi]
    obtain ⟨s1, s2⟩ := Srt.of (hO.t i hi).a
    refine List.any_eq_false.2 fun x hx => ?_
    obtain ⟨j, hj, e⟩ := List.getElem_of_mem hx
    have h2 := s2 j hj
    rw [List.getD_eq_getElem?_getD, List.getElem?_eq_getElem hj] at h2
    have h2 : 0 ≤ (s.tk.getD i tk0).a[j] ∧ (s.tk.getD i tk0).a[j] ≤ (i : Int) - 1 := h2
    rw [e] at h2
    rw [decide_eq_false (by omega), ih x.toNat (by omega) (by omega) (by omega)]
    decide
/-- The tasks that depend on a task. -/
abbrev depL (s : Si) (n : Int) (k : Nat) : List Int := fltL (dpB s n) k
end Go.Pw

set_option linter.unusedSimpArgs false
set_option linter.unusedVariables false
set_option maxHeartbeats 8000000
namespace Go.Pw
set_option maxRecDepth 2000
open Go Go.Proofs A1 A2 A3 A4
end Go.Pw

set_option linter.unusedSimpArgs false
set_option linter.unusedVariables false
set_option maxHeartbeats 8000000
namespace Go.Pw
set_option maxRecDepth 2000
open Go Go.Proofs A1 A2 A3 A4
abbrev rb (b : Bool) : List D := [.v (.bool b)]
abbrev boos (l : List Bool) : C := slv 1 rb false l
abbrev dpA (s : Si) (n : Int) (k : Nat) : List Bool := dpL s n k ++ List.replicate (s.tk.length - k) false
theorem dpA_len {s : Si} {n : Int} {k : Nat} (h : k ≤ s.tk.length) : (dpA s n k).length = s.tk.length := by
  rw [List.length_append, dpL_len, List.length_replicate]; omega
section
variable {P : Program} {N base : Nat}
/-- A call that leaves what it takes as it was. -/
theorem OpsDL.cmr [m : Mix P] {M : List Nat} {acc : List (Bool × List Nat)} {dst : Option Nat} {fop : Operand} {xs : List Operand} {g : Option (Nat × Bool)} {rest : List LIns} {env : List (Nat × V)} {σ : Store} (σ0 : Store) {nx hi : Nat} {K : St → Prop} {f : FuncId} {ids : List Nat} {args : List V} {v : V}
    (hc : CallD P f args σ0 nx v σ0 hi) (hs : Sub σ0 σ) (hf : evo env fop = .c (.fn f ids)) (hg : guardOf env g = .run) (ha : RIs (xs.map (evo env) ++ ids.map fun k => .c (.bp k 0)) args)
    (h : putK dst v env fun env' => frS (app σ0 σ0 σ) fun σ' => frNat hi fun hi' => wpD P N base M rest env' σ' hi' none ((true, dom σ0 ++ dom σ0) :: acc) K) : OpsDL P N base M (⟨dst, .call fop xs, g⟩ :: rest) ⟨env, σ, nx⟩ acc K := by
  rw [putK_eq, frS_eq, frNat_eq] at h
  exact ⟨OpsD.step (k := 0) (ks := []) (i := ⟨dst, .call fop xs, g⟩) (st := ⟨env, σ, nx⟩) (VStep.call hg rfl hf ha hc) hs (Nat.le_refl _) hc.2.1 true (fun _ => rfl) (OpsD.wp h)⟩
end
theorem RetQ.wk {nx nx1 nx' : Nat} {rl : List RL} {vs vs0 : List V} {σ' : Store} {e : Exit} {env : List (Nat × V)} {σ : Store} (hres : resAll env σ rl = some vs0) (hl : Nat.beq vs0.length vs.length = true) (h : Is nx ⟨argEnv 0 vs0, σ, nx1⟩ ⟨argEnv 0 vs, σ', nx'⟩ []) (he : e = .normal ∨ e = .ret := by first | exact .inr rfl | exact .inl rfl) : RetQ nx rl vs σ' nx' e ⟨env, σ, nx1⟩ := by
  have := h.wk
  rw [nmAt_nil] at this
  exact RetQ.of he hres hl (Mv.weaken this)
abbrev dsto (n : Int) (L : List Bool) : Store := [(2, .box [.ms 1 L.length]), (1, rowv 4 1 rb false L), (0, .box [int n])]
theorem A56 {n : Int} {a : List Int} {L : List Bool} (ha : a.length ≤ 1000000) (hL : L.length ≤ 1000000) (hb : ∀ j, j < a.length → 0 ≤ a.getD j 0 ∧ a.getD j 0 < L.length) :
    CallD Tryz.prog 56 [.c (ints a), .c (.fn 105 [0, 2])] (dsto n L) 3 (vbl (a.any fun x => decide (x = n) || L.getD x.toNat false)) (dsto n L) 3 := by
  obtain ⟨q, hq⟩ : ∃ q, q = (a.any fun x => decide (x = n) || L.getD x.toNat false) := ⟨_, rfl⟩
  rw [← hq]
  rw [← anyN_mem] at hq
  obtain ⟨F, hF⟩ : ∃ F : Nat → Bool, F = fun j => (decide (a.getD j 0 = n) || L.getD (a.getD j 0).toNat false) := ⟨_, rfl⟩
  rw [← hF] at hq
  have hFj : ∀ j, F j = (decide (a.getD j 0 = n) || L.getD (a.getD j 0).toNat false) := fun j => by rw [hF]
  refine CallD.of (vs := [vbl q]) fn56 rfl rfl (by (refine qis ?_ ?_ <;> (repeat' first | exact rfl | (refine qS ?_; constructor)))) ?_
  (repeat' first | (refine Owe.same ?_; first | refine Owe.o ?_ | refine Owe.mk ?_ ?_) | (refine Fork.same ?_; (first | refine fkD ?_ ?_ | refine fkN ?_ ?_ | refine fkM ?_ ?_) <;> intro h) | refine MvQ.stay ?_)
  refine Ops.cs rfl rfl (CallS.of fn97 rfl ?_)
  (repeat' first | (refine Owe.same ?_; first | refine Owe.o ?_ | refine Owe.mk ?_ ?_) | (refine Fork.same ?_; (first | refine fkD ?_ ?_ | refine fkN ?_ ?_ | refine fkM ?_ ?_) <;> intro h) | refine MvQ.stay ?_)
  refine Sat.lp (fun j : Nat => ⟨[(8, vi .i64 j), (7, vi .i64 a.length), (6, .c (ints a)), (0, .c (ints a)), (1, .c (.fn 105 [0, 2]))], dsto n L, 3⟩) (fun j => j ≤ a.length ∧ ∀ i, i < j → F i = false) (fun j => a.length - j) 0 [] ⟨Nat.zero_le _, fun i hi => by omega⟩ ?_ ?_
  · (refine qis ?_ ?_ <;> (repeat' first | exact rfl | (refine qS ?_; constructor)))
  intro j hj
  refine Fork.dec (fun hlj => ?_) (fun hlj => ?_)
  · have hlj : j < a.length := by omega
    have hbj := hb j hlj
    have hbj' : 0 ≤ a.getD (j : Int).toNat 0 ∧ a.getD (j : Int).toNat 0 < L.length := by rw [Int.toNat_natCast]; exact hbj
    (repeat' first | (refine Owe.same ?_; first | refine Owe.o ?_ | refine Owe.mk ?_ ?_) | (refine Fork.same ?_; (first | refine fkD ?_ ?_ | refine fkN ?_ ?_ | refine fkM ?_ ?_) <;> intro h) | refine MvQ.stay ?_)
    refine Ops.cs rfl rfl (CallS.of fn105 rfl ?_)
    (repeat' first | (refine Owe.same ?_; first | refine Owe.o ?_ | refine Owe.mk ?_ ?_) | (refine Fork.same ?_; (first | refine fkD ?_ ?_ | refine fkN ?_ ?_ | refine fkM ?_ ?_) <;> intro h) | refine MvQ.stay ?_)
    · have h : a.getD j 0 = n := h
      have hFt : F j = true := by rw [hFj, decide_eq_true h]; rfl
      rw [anyN_t hlj hFt] at hq
      subst hq
      (repeat' first | (refine Owe.same ?_; first | refine Owe.o ?_ | refine Owe.mk ?_ ?_) | (refine Fork.same ?_; (first | refine fkD ?_ ?_ | refine fkN ?_ ?_ | refine fkM ?_ ?_) <;> intro h) | refine MvQ.stay ?_)
      refine RetQ.wk rfl rfl ?_
      (refine qis ?_ ?_ <;> (repeat' first | exact rfl | (refine qS ?_; constructor)))
    · have h : L.getD (a.getD j 0).toNat false = true := h
      have hFt : F j = true := by rw [hFj, h, Bool.or_true]
      rw [anyN_t hlj hFt] at hq
      subst hq
      (repeat' first | (refine Owe.same ?_; first | refine Owe.o ?_ | refine Owe.mk ?_ ?_) | (refine Fork.same ?_; (first | refine fkD ?_ ?_ | refine fkN ?_ ?_ | refine fkM ?_ ?_) <;> intro h) | refine MvQ.stay ?_)
      refine RetQ.wk rfl rfl ?_
      (refine qis ?_ ?_ <;> (repeat' first | exact rfl | (refine qS ?_; constructor)))
    · rename_i h1
      have h : L.getD (a.getD j 0).toNat false = false := h
      have h1 : ¬ a.getD j 0 = n := h1
      have hFt : F j = false := by rw [hFj, h, decide_eq_false h1]; rfl
      exact again (j + 1) [] ⟨hlj, succ_all hj.2 hFt⟩ (by omega) (by (refine qis ?_ ?_ <;> (repeat' first | exact rfl | (refine qS ?_; constructor))))
  · have : j = a.length := by omega
    subst this
    rw [anyN_f.2 hj.2] at hq
    subst hq
    (repeat' first | (refine Owe.same ?_; first | refine Owe.o ?_ | refine Owe.mk ?_ ?_) | (refine Fork.same ?_; (first | refine fkD ?_ ?_ | refine fkN ?_ ?_ | refine fkM ?_ ?_) <;> intro h) | refine MvQ.stay ?_)
    refine RetQ.wk rfl rfl ?_
    (refine qis ?_ ?_ <;> (repeat' first | exact rfl | (refine qS ?_; constructor)))
theorem dpA_succ {s : Si} {n : Int} {k : Nat} (hO : SiOk s) (hk : k < s.tk.length) : dpA s n (k + 1) = (dpA s n k).set k ((s.tk.getD k tk0).a.any fun x => decide (x = n) || (dpA s n k).getD x.toNat false) := by
  have hl := dpL_len (s := s) (n := n) k
  obtain ⟨s1, s2⟩ := Srt.of (hO.t k hk).a
  have e : ((s.tk.getD k tk0).a.any fun x => decide (x = n) || (dpA s n k).getD x.toNat false) = (s.tk.getD k tk0).a.any fun x => decide (x = n) || (dpL s n k).getD x.toNat false := by
    rw [← anyN_mem, ← anyN_mem]
    refine anyN_ext fun j hj => ?_
    have h2 := s2 j hj
    congr 1
    simp only [dpA, List.getD_eq_getElem?_getD]
    rw [List.getElem?_append_left (by rw [hl]; have := h2; simp only [List.getD_eq_getElem?_getD] at this; omega)]
  rw [e, dpA, dpA, dpL, List.set_append_right _ _ (by omega), hl, Nat.sub_self, show s.tk.length - k = (s.tk.length - (k + 1)) + 1 by omega, List.replicate_succ, List.set_cons_zero, List.append_assoc]
  rfl
theorem C71 {s : Si} {n : Int} : (SiOk s ∧ TkSm s.tk) → PFD Tryz.prog 71 [siv s, vi .i64 n] (.c (boos (dpL s n s.tk.length))) := fun ⟨hO, hs⟩ => by
  have n6 := hO.n
  have hA := fun k h => dpA_len (s := s) (n := n) (k := k) h
  refine pi1 fn71 ?_
  (repeat' first | (refine Owe.same ?_; first | refine Owe.o ?_ | refine Owe.mk ?_ ?_) | (refine Fork.same ?_; (first | refine fkD ?_ ?_ | refine fkN ?_ ?_ | refine fkM ?_ ?_) <;> intro h) | refine MvQ.stay ?_)
  refine Sat.lp (fun k : Nat => ⟨[(15, vi .i64 k), (14, vi .i64 s.tk.length), (13, .c (tks s.tk)), (5, .c (.bp 2 0)), (3, .c (.bp 0 0))], [(2, .box [.ms 1 (dpA s n k).length]), (1, rowv 4 1 rb false (dpA s n k)), (0, .box [int n])], 3⟩) (fun k => k ≤ s.tk.length) (fun k => s.tk.length - k) 0 [0, 1, 2] (Nat.zero_le _) ?_ ?_
  · (refine qis ?_ ?_ <;> (repeat' first | exact rfl | (refine qS ?_; constructor)))
    · rw [hA 0 (Nat.zero_le _), Int.toNat_natCast]
    · exact ⟨false, rfl, by rw [Int.toNat_natCast]; rfl⟩
  intro k hk
  refine Fork.dec (fun hlt => ?_) (fun hlt => ?_)
  · have hlt : k < s.tk.length := by omega
    have hal := (hs k hlt).2
    obtain ⟨s1, s2⟩ := Srt.of (hO.t k hlt).a
    (repeat' first | (refine Owe.same ?_; first | refine Owe.o ?_ | refine Owe.mk ?_ ?_) | (refine Fork.same ?_; (first | refine fkD ?_ ?_ | refine fkN ?_ ?_ | refine fkM ?_ ?_) <;> intro h) | refine MvQ.stay ?_)
    have hlA := hA k hk
    refine OpsDL.cmr (dsto n (dpA s n k)) ((A56 (n := n) (a := (s.tk.getD k tk0).a) (L := dpA s n k) hal (by omega) (fun j hj => by have := s2 j hj; rw [hlA]; omega)).at _) (sub_cons rfl (sub_cons rfl (sub_cons rfl sub_nil))) rfl rfl ?_ ?_
    · refine VEqs.ris (qvs ?_)
      (repeat' first | exact rfl | (refine qS ?_; constructor))
    (repeat' first | (refine Owe.same ?_; first | refine Owe.o ?_ | refine Owe.mk ?_ ?_) | (refine Fork.same ?_; (first | refine fkD ?_ ?_ | refine fkN ?_ ?_ | refine fkM ?_ ?_) <;> intro h) | refine MvQ.stay ?_)
    have hd := dpA_succ (n := n) hO hlt
    have hlA2 := hA (k + 1) hlt
    refine again (k + 1) [0, 1, 2] hlt (by omega) ?_
    (refine qis ?_ ?_ <;> (repeat' first | exact rfl | (refine qS ?_; constructor)))
    · rw [hlA, hlA2]
    · exact ⟨_, rfl, by rw [Int.toNat_natCast]; exact hd⟩
  · have : k = s.tk.length := by omega
    subst this
    have e : dpL s n s.tk.length = dpA s n s.tk.length := by rw [dpA, Nat.sub_self]; simp
    rw [e]
    (repeat' first | (refine Owe.same ?_; first | refine Owe.o ?_ | refine Owe.mk ?_ ?_) | (refine Fork.same ?_; (first | refine fkD ?_ ?_ | refine fkN ?_ ?_ | refine fkM ?_ ?_) <;> intro h) | refine MvQ.stay ?_)
    refine rqF 0 _ rfl rfl rfl ?_; (repeat' first | exact rfl | (refine qS ?_; constructor))
end Go.Pw

set_option linter.unusedVariables false
set_option maxHeartbeats 2000000
set_option maxRecDepth 100000
namespace Go.Pw
open Go Go.Proofs
/-- moonpool/dive.Replanned -/
def lc23u : LCode :=
  (.seq (.region [⟨some 3, .boxS (.tmp 0), none⟩, ⟨some 4, .boxS (.tmp 1), none⟩, ⟨some 5, .box (.tmp 2), none⟩, ⟨some 6, .mv (.const (.slice none 0 0)), none⟩, ⟨some 7, .mv (.const
    (.int .i64 0)), none⟩, ⟨some 8, .mv (.const (.int .i64 0)), none⟩]) (.seq (.region [⟨some 16, .load true 8 (.tmp 3), none⟩, ⟨some 17, .load true 5 (.tmp 4), none⟩, ⟨some 18,
    .call (.func 52) [(.tmp 16), (.tmp 17)], none⟩, ⟨some 15, .mv (.tmp 18), none⟩, ⟨some 19, .ext (.tmp 15) 0, none⟩, ⟨some 20, .ext (.tmp 15) 1, none⟩, ⟨some 9, .alloc [(.slice
    none 0 0), (.slice none 0 0), (.slice none 0 0), (.slice none 0 0), (.int .i64 0), (.int .i64 0), (.int .i64 0), (.int .i64 0), (.int .i64 0), (.int .i64 0), (.int .i64 0),
    (.int .i64 0), (.slice none 0 0)], none⟩, ⟨none, .store 13 (.tmp 9) (.tmp 19), none⟩, ⟨some 10, .mv (.tmp 20), none⟩]) (.seq (.seq (.region [⟨some 21, .mv (.tmp 10), none⟩,
    ⟨some 22, .load false 1 (.tmp 5), none⟩, ⟨some 23, .fld 0 (.tmp 3), none⟩, ⟨some 24, .load false 1 (.tmp 23), none⟩, ⟨some 25, .len (.tmp 24), none⟩, ⟨some 26, .bin .sub (.tmp
    25) (.const (.int .i64 1)), none⟩, ⟨some 27, .call (.func 69) [(.tmp 22), (.const (.int .i64 0)), (.tmp 26)], none⟩, ⟨some 28, .call (.func 55) [(.tmp 27), (.const (.int .i64
    6))], none⟩, ⟨some 29, .lit false 33 1 [(.tmp 21), (.tmp 28)], none⟩, ⟨some 30, .call (.func 54) [(.tmp 29)], none⟩, ⟨some 10, .mv (.tmp 30), none⟩]) (.seq (.region [⟨some 31,
    .mv (.tmp 10), none⟩, ⟨some 32, .bin .neq (.tmp 31) (.const (.int .i64 0)), none⟩]) (.cond (.tmp 32) (.seq (.region [⟨some 33, .mv (.tmp 10), none⟩, ⟨some 6, .mv (.const (.slice
    none 0 0)), none⟩, ⟨some 7, .mv (.const (.int .i64 0)), none⟩, ⟨some 8, .mv (.tmp 33), none⟩]) .ret) .skip))) (.seq (.seq (.regionD [⟨some 34, .load true 13 (.tmp 9), none⟩,
    ⟨some 35, .load false 1 (.tmp 5), none⟩, ⟨some 36, .call (.func 57) [(.tmp 34), (.tmp 35)], none⟩, ⟨some 37, .un .not (.tmp 36), none⟩, ⟨some 38, .call (.func 55) [(.tmp 37),
    (.const (.int .i64 23))], none⟩, ⟨some 39, .load true 13 (.tmp 9), none⟩, ⟨some 40, .call (.func 70) [(.tmp 39)], none⟩, ⟨some 41, .call (.func 55) [(.tmp 40), (.const (.int
    .i64 24))], none⟩, ⟨some 42, .lit false 33 1 [(.tmp 38), (.tmp 41)], none⟩, ⟨some 43, .call (.func 54) [(.tmp 42)], none⟩, ⟨some 11, .mv (.tmp 43), none⟩] [0, 0, 3, 7, 15, 0,
    63, 127, 255, 511, 1023] [0, 1, 2, 3, 4, 5, 6, 7, 8, 9, 10]) (.seq (.region [⟨some 44, .mv (.tmp 11), none⟩, ⟨some 45, .bin .neq (.tmp 44) (.const (.int .i64 0)), none⟩]) (.cond
    (.tmp 45) (.seq (.region [⟨some 46, .mv (.tmp 11), none⟩, ⟨some 6, .mv (.const (.slice none 0 0)), none⟩, ⟨some 7, .mv (.const (.int .i64 0)), none⟩, ⟨some 8, .mv (.tmp 46),
    none⟩]) .ret) .skip))) (.seq (.region [⟨some 47, .load true 8 (.tmp 3), none⟩, ⟨some 48, .load false 1 (.tmp 5), none⟩, ⟨some 49, .call (.func 71) [(.tmp 47), (.tmp 48)], none⟩,
    ⟨some 12, .alloc [(.slice none 0 0)], none⟩, ⟨none, .store 1 (.tmp 12) (.tmp 49), none⟩]) (.seq (.stop (.region [⟨some 51, .load true 13 (.tmp 9), none⟩, ⟨some 52, .mkfn 72
    [(.tmp 5), (.tmp 12)], none⟩, ⟨some 53, .call (.func 67) [(.tmp 51), (.tmp 52)], none⟩, ⟨some 50, .mv (.tmp 53), none⟩, ⟨some 54, .ext (.tmp 50) 0, none⟩, ⟨some 55, .ext (.tmp
    50) 1, none⟩, ⟨some 13, .mv (.tmp 54), none⟩, ⟨some 14, .mv (.tmp 55), none⟩])) (.seq (.region [⟨some 56, .mv (.tmp 13), none⟩, ⟨some 57, .mv (.tmp 14), none⟩, ⟨some 6, .mv
    (.tmp 56), none⟩, ⟨some 7, .mv (.tmp 57), none⟩, ⟨some 8, .mv (.const (.int .i64 0)), none⟩]) .ret)))))))
theorem low23u : lowF Tryz.prog [3, 4] Tryz.f23 = some (58, lc23u.strip, [.tmp 6, .tmp 7, .tmp 8]) := by kernel_rfl
theorem fn23u : FnOk Tryz.prog 23 58 lc23u [.tmp 6, .tmp 7, .tmp 8] := ⟨Tryz.call23, [3, 4], _, Tryz.func23, low23u⟩
end Go.Pw

set_option linter.unusedSimpArgs false
set_option linter.unusedVariables false
set_option maxHeartbeats 8000000
namespace Go.Pw
set_option maxRecDepth 2000
open Go Go.Proofs A1 A2 A3 A4
abbrev isTk (s : Si) (n : Int) : Bool := wi n 0 ((s.tk.length : Int) - 1)
def deE (s : Si) (n : Int) : Int := fstE [(siE s).2, unb (isTk s n) 6]
theorem deE.ok {s : Si} {n : Int} (h : deE s n = 0) : SiOk s ∧ 0 ≤ n ∧ n < s.tk.length := by
  rw [deE, fst2, unb_ok (by decide)] at h
  have := of_decide_eq_true h.2
  exact ⟨SiOk.of h.1, by omega, by omega⟩
theorem C24 {s : Si} {n : Int} : SiSm s → PFD Tryz.prog 24 [siv s, vi .i64 n] (.tup [.c (ints (if deE s n = 0 then depL s n s.tk.length else [])), vi .i64 (deE s n)]) := fun hs => by
  have htk := hs.tk
  have c1 := C73 hs
  have hE : fstE [(siE s).2, unb (wi n 0 ((s.tk.length : Int) - 1)) 6] = deE s n := rfl
  by_cases h0 : deE s n = 0
  rotate_left
  · rw [if_neg h0]
    generalize deE s n = E at *
    refine pi2 fn24 ?_
    (repeat' first | (refine Owe.same ?_; first | refine Owe.o ?_ | refine Owe.mk ?_ ?_) | (refine Fork.same ?_; (first | refine fkD ?_ ?_ | refine fkN ?_ ?_ | refine fkM ?_ ?_) <;> intro h) | ((first | refine OpsL.same ?_ | refine OpsDL.same ?_); first | refine pK c1 rfl rfl ?_ | refine pK C69 rfl rfl ?_ | refine pK C55 rfl rfl ?_ | refine pK C54 rfl rfl ?_) | refine MvQ.stay ?_)
    · (repeat' first | (refine Owe.same ?_; first | refine Owe.o ?_ | refine Owe.mk ?_ ?_) | (refine Fork.same ?_; (first | refine fkD ?_ ?_ | refine fkN ?_ ?_ | refine fkM ?_ ?_) <;> intro h) | refine MvQ.stay ?_)
      (refine rqK rfl ?_; (repeat' first | exact rfl | (refine qS ?_; constructor)))
      exact hE
    · exact absurd (hE.symm.trans h) h0
  · rw [if_pos h0, h0]
    obtain ⟨hO, hn⟩ := deE.ok h0
    have n6 := hO.n
    have c2 := C71 (n := n) ⟨hO, hs.t⟩
    have hdl := dpL_len (s := s) (n := n) s.tk.length
    rw [h0] at hE
    refine pi2 fn24 ?_
    (repeat' first | (refine Owe.same ?_; first | refine Owe.o ?_ | refine Owe.mk ?_ ?_) | (refine Fork.same ?_; (first | refine fkD ?_ ?_ | refine fkN ?_ ?_ | refine fkM ?_ ?_) <;> intro h) | ((first | refine OpsL.same ?_ | refine OpsDL.same ?_); first | refine pK c1 rfl rfl ?_ | refine pK C69 rfl rfl ?_ | refine pK C55 rfl rfl ?_ | refine pK C54 rfl rfl ?_) | refine MvQ.stay ?_)
    · exact absurd hE h
    (repeat' first | (refine Owe.same ?_; first | refine Owe.o ?_ | refine Owe.mk ?_ ?_) | (refine Fork.same ?_; (first | refine fkY ?_ | refine fkF ?_ | ((first | refine fkD ?_ ?_ | refine fkN ?_ ?_ | refine fkM ?_ ?_) <;> intro h))) | ((first | refine OpsL.same ?_ | refine OpsDL.same ?_); first | refine oK c2 rfl rfl rfl ?_) | refine MvQ.stay ?_)
    refine Sat.nilS 8 3 1 (fun i => r1 (([] : List Int).getD i 0)) rfl ?_
    refine Sat.lp (fun k : Nat => ⟨[(33, vi .i64 k), (32, vi .i64 (dpL s n s.tk.length).length), (31, .c (boos (dpL s n s.tk.length))), (8, .c (.ms 0 (depL s n k).length))], [(0, rowv 3 1 r1 0 (depL s n k))], 1⟩) (fun k => k ≤ s.tk.length) (fun k => s.tk.length - k) 0 [0] (Nat.zero_le _) ?_ ?_
    · (refine qis ?_ ?_ <;> (repeat' first | exact rfl | (refine qS ?_; constructor)))
    intro k hk
    have hfl : (depL s n k).length ≤ k := fltL_len (dpB s n) k
    have hfs : depL s n (k + 1) = if dpB s n k = true then depL s n k ++ [(k : Int)] else depL s n k := fltL_succ (dpB s n) k
    refine Fork.dec (fun hlt => ?_) (fun hlt => ?_)
    · have hlt : k < s.tk.length := by omega
      (repeat' first | (refine Owe.same ?_; first | refine Owe.o ?_ | refine Owe.mk ?_ ?_) | (refine Fork.same ?_; (first | refine fkD ?_ ?_ | refine fkN ?_ ?_ | refine fkM ?_ ?_) <;> intro h) | refine MvQ.stay ?_)
      · have h : dpB s n k = true := h
        rw [if_pos h] at hfs
        refine again (k + 1) [1] hlt (by omega) ?_
        rw [hfs]
        (refine qis ?_ ?_ <;> (repeat' first | exact rfl | (refine qS ?_; constructor)))
        simp
      · have h : dpB s n k = false := h
        rw [if_neg (by rw [h]; decide)] at hfs
        refine again (k + 1) [0] hlt (by omega) ?_
        rw [hfs]
        (refine qis ?_ ?_ <;> (repeat' first | exact rfl | (refine qS ?_; constructor)))
    · have : k = s.tk.length := by omega
      subst this
      (repeat' first | (refine Owe.same ?_; first | refine Owe.o ?_ | refine Owe.mk ?_ ?_) | (refine Fork.same ?_; (first | refine fkD ?_ ?_ | refine fkN ?_ ?_ | refine fkM ?_ ?_) <;> intro h) | refine MvQ.stay ?_)
      refine rqF 0 _ rfl rfl rfl ?_; (repeat' first | exact rfl | (refine qS ?_; constructor))
abbrev boosD (L : List Bool) : D := .sl 1 L.length fun i => rb (L.getD i false)
theorem C72 {n : Int} {L : List Bool} {k : Nat} : k < L.length → PFD Tryz.prog 72 [vi .i64 k, .c (.rp [dI n]), .c (.rp [boosD L])] (vbl (!decide ((k : Int) = n) && !(L.getD k false))) := fun hk => by
  obtain ⟨q, hq⟩ : ∃ q, q = (!decide ((k : Int) = n) && !(L.getD k false)) := ⟨_, rfl⟩
  rw [← hq]
  refine pi1 fn72 ?_
  (repeat' first | (refine Owe.same ?_; first | refine Owe.o ?_ | refine Owe.mk ?_ ?_) | (refine Fork.same ?_; (first | refine fkD ?_ ?_ | refine fkN ?_ ?_ | refine fkM ?_ ?_) <;> intro h) | refine MvQ.stay ?_)
  · (refine rqK rfl ?_; (repeat' first | exact rfl | (refine qS ?_; constructor)))
    rw [hq, decide_eq_false h]; rfl
  · (refine rqK rfl ?_; (repeat' first | exact rfl | (refine qS ?_; constructor)))
    rw [hq, decide_eq_true h]; rfl
/-- The error of a plan without a task. -/
def reE (s : Si) (t : St8) (n : Int) : Int := fstE [onE s t, unb (isTk s n) 6]
def rpX (s : Si) (t : St8) (n : Int) : Int := fstE [unb (!decide (n ∈ t.d)) 23, unb (reB s t) 24]
abbrev pmD (s : Si) (n : Int) (k : Nat) : Bool := !decide ((k : Int) = n) && !(dpB s n k)
def raE (s : Si) (t : St8) (n : Int) : Int := if reE s t n = 0 then rpX s t n else reE s t n
theorem C23 {s : Si} {t : St8} {n : Int} : (SiSm s ∧ t.d.length ≤ 1000000) → PFD Tryz.prog 23 [siv s, stv t, vi .i64 n] (.tup [.c (ints (if raE s t n = 0 then (bestPp (pmD s n) s t).1 else [])), vi .i64 (if raE s t n = 0 then (bestPp (pmD s n) s t).2 else 0), vi .i64 (raE s t n)]) := fun ⟨hs, hd⟩ => by
  have htk := hs.tk
  have c1 := C52 (s := s) (t := t) ⟨hs, hd⟩
  have hE : fstE [onE s t, unb (wi n 0 ((s.tk.length : Int) - 1)) 6] = reE s t n := rfl
  by_cases h0 : reE s t n = 0
  rotate_left
  · have e : raE s t n = reE s t n := if_neg h0
    rw [e, if_neg h0, if_neg h0]
    generalize reE s t n = E at *
    refine pi3 fn23u ?_
    (repeat' first | (refine Owe.same ?_; first | refine Owe.o ?_ | refine Owe.mk ?_ ?_) | (refine Fork.same ?_; (first | refine fkD ?_ ?_ | refine fkN ?_ ?_ | refine fkM ?_ ?_) <;> intro h) | ((first | refine OpsL.same ?_ | refine OpsDL.same ?_); first | refine pK c1 rfl rfl ?_ | refine pK C69 rfl rfl ?_ | refine pK C55 rfl rfl ?_ | refine pK C54 rfl rfl ?_) | refine MvQ.stay ?_)
    · (repeat' first | (refine Owe.same ?_; first | refine Owe.o ?_ | refine Owe.mk ?_ ?_) | (refine Fork.same ?_; (first | refine fkD ?_ ?_ | refine fkN ?_ ?_ | refine fkM ?_ ?_) <;> intro h) | refine MvQ.stay ?_)
      (refine rqK rfl ?_; (repeat' first | exact rfl | (refine qS ?_; constructor)))
      exact hE
    · exact absurd (hE.symm.trans h) h0
  have e : raE s t n = rpX s t n := if_pos h0
  have h0' := h0
  rw [reE, fst2, unb_ok (by decide)] at h0'
  obtain ⟨ho, hn⟩ := h0'
  have hn := of_decide_eq_true hn
  have hO := OnOk.of ho
  have c2 := C70 hO.b
  have c3 := C57 (s := s) (t := t) (n := n) hd
  rw [h0] at hE
  rw [e]
  have hX : fstE [unb (!decide (n ∈ t.d)) 23, unb (reB s t) 24] = rpX s t n := rfl
  by_cases hx : rpX s t n = 0
  rotate_left
  · rw [if_neg hx, if_neg hx]
    generalize rpX s t n = X at *
    refine pi3 fn23u ?_
    (repeat' first | (refine Owe.same ?_; first | refine Owe.o ?_ | refine Owe.mk ?_ ?_) | (refine Fork.same ?_; (first | refine fkD ?_ ?_ | refine fkN ?_ ?_ | refine fkM ?_ ?_) <;> intro h) | ((first | refine OpsL.same ?_ | refine OpsDL.same ?_); first | refine pK c1 rfl rfl ?_ | refine pK C69 rfl rfl ?_ | refine pK C55 rfl rfl ?_ | refine pK C54 rfl rfl ?_) | refine MvQ.stay ?_)
    · exact absurd hE h
    (repeat' first | (refine Owe.same ?_; first | refine Owe.o ?_ | refine Owe.mk ?_ ?_) | (refine Fork.same ?_; (first | refine fkD ?_ ?_ | refine fkN ?_ ?_ | refine fkM ?_ ?_) <;> intro h) | ((first | refine OpsL.same ?_ | refine OpsDL.same ?_); first | refine pK c2 rfl rfl ?_ | refine pK c3 rfl rfl ?_ | refine pK C55 rfl rfl ?_ | refine pK C54 rfl rfl ?_) | refine MvQ.stay ?_)
    · (repeat' first | (refine Owe.same ?_; first | refine Owe.o ?_ | refine Owe.mk ?_ ?_) | (refine Fork.same ?_; (first | refine fkD ?_ ?_ | refine fkN ?_ ?_ | refine fkM ?_ ?_) <;> intro h) | refine MvQ.stay ?_)
      (refine rqK rfl ?_; (repeat' first | exact rfl | (refine qS ?_; constructor)))
      exact hX
    · exact absurd (hX.symm.trans h) hx
  · rw [if_pos hx, if_pos hx, hx]
    have c4 := C71 (n := n) ⟨hO.ok, hs.t⟩
    have hdl := dpL_len (s := s) (n := n) s.tk.length
    have c5 := C67p (g := 72) (rows := [[dI n], [boosD (dpL s n s.tk.length)]]) (pm := pmD s n) (s := s) (t := t) (fun k hk => C72 (by omega)) ⟨hO, hs.t⟩
    generalize bestPp (pmD s n) s t = B at *
    refine pi3 fn23u ?_
    (repeat' first | (refine Owe.same ?_; first | refine Owe.o ?_ | refine Owe.mk ?_ ?_) | (refine Fork.same ?_; (first | refine fkD ?_ ?_ | refine fkN ?_ ?_ | refine fkM ?_ ?_) <;> intro h) | ((first | refine OpsL.same ?_ | refine OpsDL.same ?_); first | refine pK c1 rfl rfl ?_ | refine pK C69 rfl rfl ?_ | refine pK C55 rfl rfl ?_ | refine pK C54 rfl rfl ?_) | refine MvQ.stay ?_)
    · exact absurd hE h
    (repeat' first | (refine Owe.same ?_; first | refine Owe.o ?_ | refine Owe.mk ?_ ?_) | (refine Fork.same ?_; (first | refine fkD ?_ ?_ | refine fkN ?_ ?_ | refine fkM ?_ ?_) <;> intro h) | ((first | refine OpsL.same ?_ | refine OpsDL.same ?_); first | refine pK c2 rfl rfl ?_ | refine pK c3 rfl rfl ?_ | refine pK C55 rfl rfl ?_ | refine pK C54 rfl rfl ?_) | refine MvQ.stay ?_)
    · exact absurd (hX.trans hx) h
    (repeat' first | (refine Owe.same ?_; first | refine Owe.o ?_ | refine Owe.mk ?_ ?_) | (refine Fork.same ?_; (first | refine fkY ?_ | refine fkF ?_ | ((first | refine fkD ?_ ?_ | refine fkN ?_ ?_ | refine fkM ?_ ?_) <;> intro h))) | ((first | refine OpsL.same ?_ | refine OpsDL.same ?_); first | refine oK c4 rfl rfl rfl ?_) | refine MvQ.stay ?_)
    refine SatL.frB 8 [12] rfl rfl ?_
    refine SatL.frB 0 [5] rfl rfl ?_
    refine SatL.go ?_
    (repeat' first | (refine Owe.same ?_; first | refine Owe.o ?_ | refine Owe.mk ?_ ?_) | (refine Fork.same ?_; (first | refine fkY ?_ | refine fkF ?_ | ((first | refine fkD ?_ ?_ | refine fkN ?_ ?_ | refine fkM ?_ ?_) <;> intro h))) | ((first | refine OpsL.same ?_ | refine OpsDL.same ?_); first | refine oK c5 rfl rfl rfl ?_) | refine MvQ.stay ?_)
    (refine rqK rfl ?_; (repeat' first | exact rfl | (refine qS ?_; constructor)))
end Go.Pw

set_option linter.unusedSimpArgs false
set_option linter.unusedVariables false
set_option maxHeartbeats 8000000
namespace Go.Pw
set_option maxRecDepth 2000
open Go Go.Proofs A1 A2 A3 A4
end Go.Pw

set_option linter.unusedSimpArgs false
set_option linter.unusedVariables false
set_option maxHeartbeats 8000000
namespace Go.Pw
set_option maxRecDepth 2000
open Go Go.Proofs A1 A2 A3 A4
end Go.Pw

set_option linter.unusedSimpArgs false
set_option linter.unusedVariables false
set_option maxHeartbeats 4000000
namespace Go.Pw
set_option maxRecDepth 2000
open Go Go.Proofs A1 A2 A3 A4
theorem C83 {a b : Int} : (Md a ∧ Md b) → PFD Tryz.prog 83 [vi .i64 a, vi .i64 b] (vi .i64 (gcdI a b)) := fun hab => by
  refine pi1 fn83 ?_
  (repeat' first | (refine Owe.same ?_; first | refine Owe.o ?_ | refine Owe.mk ?_ ?_) | (refine Fork.same ?_; (first | refine fkD ?_ ?_ | refine fkN ?_ ?_ | refine fkM ?_ ?_) <;> intro h) | refine MvQ.stay ?_)
  refine Sat.lp0 (fun p : Int × Int => [(0, vi .i64 p.1), (1, vi .i64 p.2)]) (fun p => (Md p.1 ∧ Md p.2) ∧ Int.gcd p.1 p.2 = Int.gcd a b) (fun p => p.2.natAbs) (a, b) ⟨hab, rfl⟩ (by ((first | refine qen ?_ | refine qvs ?_ | refine qeq ?_ | refine qst ?_ | refine qv ?_ | refine qc ?_ | refine qe ?_ | refine qcs ?_ | skip); (repeat' first | exact rfl | (refine qS ?_; constructor)))) ?_
  rintro ⟨x, y⟩ ⟨hm, hg⟩
  (repeat' first | (refine Owe.same ?_; first | refine Owe.o ?_ | refine Owe.mk ?_ ?_) | (refine Fork.same ?_; (first | refine fkD ?_ ?_ | refine fkN ?_ ?_ | refine fkM ?_ ?_) <;> intro h) | refine MvQ.stay ?_)
  · have h1 := tmod_abs (a := x) h
    refine again0 (y, x.tmod y) ⟨⟨hm.2, by have := hm.2; simp only [Md] at *; omega⟩, by rw [gcd_step]; exact hg⟩ h1 (by ((first | refine qen ?_ | refine qvs ?_ | refine qeq ?_ | refine qst ?_ | refine qv ?_ | refine qc ?_ | refine qe ?_ | refine qcs ?_ | skip); (repeat' first | exact rfl | (refine qS ?_; constructor))))
  · (refine rqK rfl ?_; (repeat' first | exact rfl | (refine qS ?_; constructor)))
    have h : y = 0 := h
    subst h
    exact (gcd_zero x).symm.trans (by simp only [gcdI]; rw [← hg])
theorem C86 {n d : Int} : (Md n ∧ Md d ∧ 0 < d) → PFD Tryz.prog 86 [vi .i64 n, vi .i64 d] (.agg [int (frac n d).1, int (frac n d).2]) := fun ⟨hn, hd, h0⟩ => by
  have h1 := gcd_pos (n := n) h0
  have h2 := tdiv_bd (b := gcdI n d) hn
  have h3 := tdiv_bd (b := gcdI n d) hd
  refine pi1 fn86 ?_
  (repeat' first | (refine Owe.same ?_; first | refine Owe.o ?_ | refine Owe.mk ?_ ?_) | (refine Fork.same ?_; (first | refine fkD ?_ ?_ | refine fkN ?_ ?_ | refine fkM ?_ ?_) <;> intro h) | ((first | refine OpsL.same ?_ | refine OpsDL.same ?_); first | refine pK C83 rfl rfl ?_) | refine MvQ.stay ?_)
  (refine rqK rfl ?_; (repeat' first | exact rfl | (refine qS ?_; constructor)))
abbrev cmpF (a b : Int × Int) : Int := cmpI (a.1 * b.2) (b.1 * a.2)
abbrev frv (p : Int × Int) : V := .agg [int p.1, int p.2]
/-- A fraction whose parts are small. -/
abbrev frSm (p : Int × Int) : Prop := (-2000000000000 ≤ p.1 ∧ p.1 ≤ 2000000000000) ∧ 0 < p.2 ∧ p.2 ≤ 10000
theorem frSm_mul {a b : Int × Int} (ha : frSm a) (hb : frSm b) : -20000000000000000 ≤ a.1 * b.2 ∧ a.1 * b.2 ≤ 20000000000000000 := by
  have := mbd (a := a.1) (A := 2000000000000) (by omega) (b := b.2) (B := 10000) (by omega)
  omega
theorem C89 {a b : Int × Int} : (frSm a ∧ frSm b) → PFD Tryz.prog 89 [frv a, frv b] (vi .i64 (cmpF a b)) := fun ⟨ha, hb⟩ => by
  have h1 := frSm_mul ha hb
  have h2 := frSm_mul hb ha
  refine pi1 fn89 ?_
  (repeat' first | (refine Owe.same ?_; first | refine Owe.o ?_ | refine Owe.mk ?_ ?_) | (refine Fork.same ?_; (first | refine fkD ?_ ?_ | refine fkN ?_ ?_ | refine fkM ?_ ?_) <;> intro h) | ((first | refine OpsL.same ?_ | refine OpsDL.same ?_); first | refine pK C61 rfl rfl ?_) | refine MvQ.stay ?_)
  (refine rqK rfl ?_; (repeat' first | exact rfl | (refine qS ?_; constructor)))
theorem C45 {a b : Int × Int} : (frSm a ∧ frSm b) → PFD Tryz.prog 45 [frv a, frv b] (vi .i64 (cmpF a b)) := fun ⟨ha, hb⟩ => by
  have h1 := frSm_mul ha hb
  have h2 := frSm_mul hb ha
  obtain ⟨q, hq⟩ : ∃ q, q = cmpF a b := ⟨_, rfl⟩
  rw [← hq]
  refine pi1 fn45 ?_
  (repeat' first | (refine Owe.same ?_; first | refine Owe.o ?_ | refine Owe.mk ?_ ?_) | (refine Fork.same ?_; (first | refine fkD ?_ ?_ | refine fkN ?_ ?_ | refine fkM ?_ ?_) <;> intro h) | refine MvQ.stay ?_)
  · have : q = -1 := by rw [hq, cmpF, cmpI, if_pos h]
    subst this
    (refine rqK rfl ?_; (repeat' first | exact rfl | (refine qS ?_; constructor)))
  · rename_i h1; (refine rqK rfl ?_; (repeat' first | exact rfl | (refine qS ?_; constructor))); rw [hq, cmpF, cmpI, if_neg h1, if_pos h]
  · rename_i h1; (refine rqK rfl ?_; (repeat' first | exact rfl | (refine qS ?_; constructor))); rw [hq, cmpF, cmpI, if_neg h1, if_neg h]
/-- A price that is accepted in size. -/
abbrev prOk (p : Int × Int) : Prop := (0 ≤ p.1 ∧ p.1 ≤ 10000) ∧ 0 < p.2 ∧ p.2 ≤ 10000
def bdP (s : Si) (t : St8) (p : Int × Int) : Nat → Int
  | 0 => p.1 * (t.w - s.res)
  | k + 1 => if (k : Int) ∈ t.d then bdP s t p k else bdP s t p k + max 0 ((tkA s k).v * p.2 - p.1 * (tkA s k).w)
abbrev bdF (s : Si) (t : St8) (p : Int × Int) : Int × Int := frac (bdP s t p s.tk.length) p.2
theorem bdP_bd {s : Si} {t : St8} {p : Int × Int} (h : OnOk s t) (hp : prOk p) : ∀ k, k ≤ s.tk.length → -1100000000000 ≤ bdP s t p k ∧ bdP s t p k ≤ 1100000000000 + 200000000 * k
  | 0, _ => by
    have h2 := h.en
    have h3 := h.ok.e
    have := mbd (a := p.1) (A := 10000) (by omega) (b := t.w - s.res) (B := 100010000) (by omega)
    rw [bdP]; omega
  | k + 1, hk => by
    have ih := bdP_bd h hp k (by omega)
    have ht := h.ok.t k (by omega)
    have hv := ht.v
    have hw := ht.w
    have e : tkA s (k : Int) = s.tk.getD k tk0 := by simp only [tkA, Int.toNat_natCast]
    have h1 := mbd (a := (tkA s (k : Int)).v) (A := 10000) (by rw [e]; omega) (b := p.2) (B := 10000) (by omega)
    have h2 := mbd (a := p.1) (A := 10000) (by omega) (b := (tkA s (k : Int)).w) (B := 10000) (by rw [e]; omega)
    rw [bdP]
    split <;> omega
end Go.Pw

set_option linter.unusedSimpArgs false
set_option linter.unusedVariables false
set_option maxHeartbeats 4000000
namespace Go.Pw
set_option maxRecDepth 2000
open Go Go.Proofs A1 A2 A3 A4
theorem C85 {s : Si} {t : St8} {p : Int × Int} : (OnOk s t ∧ prOk p) → PFD Tryz.prog 85 [div s t, frv p] (frv (bdF s t p)) := fun ⟨h, hp⟩ => by
  have n6 := h.ok.n
  have ld := h.dl
  have h2 := h.en
  have h3 := h.ok.e
  have b0 := mbd (a := p.1) (A := 10000) (by omega) (b := t.w - s.res) (B := 100010000) (by omega)
  have c1 := fun n => C57 (s := s) (t := t) (n := n) (by omega)
  obtain ⟨q, hq⟩ : ∃ q, q = bdF s t p := ⟨_, rfl⟩
  rw [← hq]
  refine pi1 fn85 ?_
  (repeat' first | (refine Owe.same ?_; first | refine Owe.o ?_ | refine Owe.mk ?_ ?_) | (refine Fork.same ?_; (first | refine fkD ?_ ?_ | refine fkN ?_ ?_ | refine fkM ?_ ?_) <;> intro h) | refine MvQ.stay ?_)
  refine Sat.lp (fun k : Nat => ⟨[(22, vi .i64 k), (21, vi .i64 s.tk.length), (20, .c (tks s.tk)), (5, vi .i64 (bdP s t p k)), (2, .c (.rp (diD s t))), (3, .c (.rp [dI p.1, dI p.2])), (4, .c (.bp 0 0))], [(0, .box [int 0, int 0])], 1⟩) (fun k => k ≤ s.tk.length) (fun k => s.tk.length - k) 0 [0] (Nat.zero_le _) (by (refine qis ?_ ?_ <;> (repeat' first | exact rfl | (refine qS ?_; constructor)))) ?_
  intro k hk
  have hb := bdP_bd h hp k hk
  refine Fork.dec (fun hlt => ?_) (fun hlt => ?_)
  · have hlt : k < s.tk.length := by omega
    have ht := h.ok.t k hlt
    have hv := ht.v
    have hw := ht.w
    have b1 := mbd (a := (s.tk.getD k tk0).v) (A := 10000) (by omega) (b := p.2) (B := 10000) (by omega)
    have b2 := mbd (a := (s.tk.getD k tk0).w) (A := 10000) (by omega) (b := p.1) (B := 10000) (by omega)
    have c2 := c1 (k : Int)
    by_cases hm : (k : Int) ∈ t.d
    · have e : bdP s t p (k + 1) = bdP s t p k := by rw [bdP, if_pos hm]
      rw [decide_eq_true hm] at c2
      (repeat' first | (refine Owe.same ?_; first | refine Owe.o ?_ | refine Owe.mk ?_ ?_) | (refine Fork.same ?_; (first | refine fkY ?_ | refine fkF ?_ | ((first | refine fkD ?_ ?_ | refine fkN ?_ ?_ | refine fkM ?_ ?_) <;> intro h))) | ((first | refine OpsL.same ?_ | refine OpsDL.same ?_); first | refine oK c2 rfl rfl rfl ?_) | refine MvQ.stay ?_)
      refine again (k + 1) [0] hlt (by omega) ?_
      rw [e]
      (refine qis ?_ ?_ <;> (repeat' first | exact rfl | (refine qS ?_; constructor)))
    · have e : bdP s t p (k + 1) = bdP s t p k + max 0 ((s.tk.getD k tk0).v * p.2 - (s.tk.getD k tk0).w * p.1) := by
        rw [bdP, if_neg hm, Int.mul_comm p.1]; simp only [tkA, Int.toNat_natCast]
      rw [decide_eq_false hm] at c2
      (repeat' first | (refine Owe.same ?_; first | refine Owe.o ?_ | refine Owe.mk ?_ ?_) | (refine Fork.same ?_; (first | refine fkY ?_ | refine fkF ?_ | ((first | refine fkD ?_ ?_ | refine fkN ?_ ?_ | refine fkM ?_ ?_) <;> intro h))) | ((first | refine OpsL.same ?_ | refine OpsDL.same ?_); first | refine oK c2 rfl rfl rfl ?_) | refine MvQ.stay ?_)
      refine again (k + 1) [0] hlt (by omega) ?_
      rw [e]
      (refine qis ?_ ?_ <;> (repeat' first | exact rfl | (refine qS ?_; constructor)))
  · obtain rfl : k = s.tk.length := by omega
    have c3 := C86 (n := bdP s t p s.tk.length) (d := p.2) ⟨by simp only [Md]; omega, by simp only [Md]; omega, by omega⟩
    change PFD Tryz.prog 86 _ (frv (bdF s t p)) at c3
    rw [← hq] at c3
    (repeat' first | (refine Owe.same ?_; first | refine Owe.o ?_ | refine Owe.mk ?_ ?_) | (refine Fork.same ?_; (first | refine fkY ?_ | refine fkF ?_ | ((first | refine fkD ?_ ?_ | refine fkN ?_ ?_ | refine fkM ?_ ?_) <;> intro h))) | ((first | refine OpsL.same ?_ | refine OpsDL.same ?_); first | refine oK c3 rfl rfl rfl ?_) | refine MvQ.stay ?_)
    (refine rqK rfl ?_; (repeat' first | exact rfl | (refine qS ?_; constructor)))
theorem tdiv_nn2 {a b M : Int} (h : 0 ≤ a ∧ a ≤ M) (hb : 0 < b) : 0 ≤ a.tdiv b ∧ a.tdiv b ≤ M := by
  have h1 := tdiv_bd (b := b) (a := a) (M := M) (by omega)
  refine ⟨Int.tdiv_nonneg h.1 (by omega), h1.2⟩
theorem frac_den {n d M : Int} (hd : 0 < d ∧ d ≤ M) : 0 < (frac n d).2 ∧ (frac n d).2 ≤ M := by
  have hg := gcd_pos (n := n) hd.1
  have h1 : 0 < d.tdiv (gcdI n d) := by
    rw [Int.tdiv_eq_ediv_of_nonneg (by omega)]
    exact Int.ediv_pos_of_pos_of_dvd hd.1 (by omega) (Int.gcd_dvd_right ..)
  exact ⟨h1, (tdiv_nn2 (b := gcdI n d) (a := d) (M := M) (by omega) (by omega)).2⟩
theorem bdF_sm {s : Si} {t : St8} {p : Int × Int} (h : OnOk s t) (hp : prOk p) : frSm (bdF s t p) := by
  have n6 := h.ok.n
  have hb := bdP_bd h hp s.tk.length (Nat.le_refl _)
  exact ⟨tdiv_bd (M := 2000000000000) (by omega), frac_den hp.2⟩
theorem prOk.sm {p : Int × Int} (h : prOk p) : frSm p := ⟨by omega, h.2⟩
theorem prOk.frac {n d : Int} (hn : isN n) (hd : isN d ∧ d ≠ 0) : prOk (frac n d) := by
  have hg := gcd_pos (n := n) (d := d) (by omega)
  exact ⟨tdiv_nn2 (by omega) hg, frac_den (M := 10000) (by omega)⟩
/-- The order of prices: by the bound, then by the price. -/
abbrev lsI (s : Si) (t : St8) (a b : Int × Int) : Int := fstE [cmpF (bdF s t a) (bdF s t b), cmpF a b]
abbrev lsB (s : Si) (t : St8) (a b : Int × Int) : Bool := decide (lsI s t a b < 0)
theorem C88 {s : Si} {t : St8} {a b : Int × Int} : (OnOk s t ∧ prOk a ∧ prOk b) → PFD Tryz.prog 88 [frv a, frv b, .c (.rp (diD s t))] (vi .i64 (lsI s t a b)) := fun ⟨h, ha, hb⟩ => by
  have c1 := C85 (s := s) (t := t) (p := a) ⟨h, ha⟩
  have c2 := C85 (s := s) (t := t) (p := b) ⟨h, hb⟩
  have c3 := C89 (a := bdF s t a) (b := bdF s t b) ⟨bdF_sm h ha, bdF_sm h hb⟩
  have c4 := C89 (a := a) (b := b) ⟨ha.sm, hb.sm⟩
  obtain ⟨q, hq⟩ : ∃ q, q = lsI s t a b := ⟨_, rfl⟩
  rw [← hq]
  rw [lsI] at hq
  generalize bdF s t a = A at *
  generalize bdF s t b = B at *
  generalize cmpF A B = x at *
  generalize cmpF a b = y at *
  refine pi1 fn88 ?_
  (repeat' first | (refine Owe.same ?_; first | refine Owe.o ?_ | refine Owe.mk ?_ ?_) | (refine Fork.same ?_; (first | refine fkY ?_ | refine fkF ?_ | ((first | refine fkD ?_ ?_ | refine fkN ?_ ?_ | refine fkM ?_ ?_) <;> intro h))) | ((first | refine OpsL.same ?_ | refine OpsDL.same ?_); first | refine oK c1 rfl rfl rfl ?_ | refine oK c2 rfl rfl rfl ?_ | refine oK c3 rfl rfl rfl ?_ | refine oK c4 rfl rfl rfl ?_) | refine MvQ.stay ?_)
  (repeat' first | (refine Owe.same ?_; first | refine Owe.o ?_ | refine Owe.mk ?_ ?_) | (refine Fork.same ?_; (first | refine fkD ?_ ?_ | refine fkN ?_ ?_ | refine fkM ?_ ?_) <;> intro h) | ((first | refine OpsL.same ?_ | refine OpsDL.same ?_); first | refine pK C60 rfl rfl ?_) | refine MvQ.stay ?_)
  subst hq
  (refine rqK rfl ?_; (repeat' first | exact rfl | (refine qS ?_; constructor)))
def minS (lt : Int × Int → Int × Int → Bool) : List (Int × Int) → Int × Int
  | [] => (0, 0)
  | x :: l => l.foldl (fun m y => if lt y m = true then y else m) x
theorem minS_app {lt : Int × Int → Int × Int → Bool} {l : List (Int × Int)} {y : Int × Int} (h : l ≠ []) : minS lt (l ++ [y]) = if lt y (minS lt l) = true then y else minS lt l := by
  cases l with
  | nil => exact absurd rfl h
  | cons x l => simp only [minS, List.cons_append, List.foldl_append, List.foldl_cons, List.foldl_nil]; rfl
theorem minS_take {lt : Int × Int → Int × Int → Bool} {l : List (Int × Int)} {k : Nat} (h : 0 < k) (hk : k < l.length) : minS lt (l.take (k + 1)) = if lt (l.getD k (0, 0)) (minS lt (l.take k)) = true then l.getD k (0, 0) else minS lt (l.take k) := by
  have e : l.take (k + 1) = l.take k ++ [l.getD k (0, 0)] := by
    rw [List.getD_eq_getElem?_getD, List.getElem?_eq_getElem hk]; exact (List.take_append_getElem hk).symm
  rw [e, minS_app (by intro h0; have := congrArg List.length h0; rw [List.length_take] at this; simp only [List.length_nil] at this; omega)]
theorem C87 {g : FuncId} {rows : List (List D)} {l : List (Int × Int)} {ok : Int × Int → Prop} {lt : Int × Int → Int × Int → Int} (hl : 0 < l.length ∧ l.length ≤ 1000000) (hok : ∀ i, i < l.length → ok (l.getD i (0, 0)))
    (hg : ∀ a b, ok a → ok b → PFD Tryz.prog g (frv a :: frv b :: rows.map fun r => .c (.rp r)) (vi .i64 (lt a b))) : PFD Tryz.prog 87 [.c (prs l), .c (.fnR g rows)] (frv (minS (fun a b => decide (lt a b < 0)) l)) := by
  obtain ⟨q, hq⟩ : ∃ q, q = minS (fun a b => decide (lt a b < 0)) l := ⟨_, rfl⟩
  rw [← hq]
  have e0 : minS (fun a b => decide (lt a b < 0)) (l.take (0 + 1)) = l.getD 0 (0, 0) := by
    cases l with
    | nil => exact absurd hl.1 (by decide)
    | cons x l => rfl
  refine pi1 fn87 ?_
  (repeat' first | (refine Owe.same ?_; first | refine Owe.o ?_ | refine Owe.mk ?_ ?_) | (refine Fork.same ?_; (first | refine fkD ?_ ?_ | refine fkN ?_ ?_ | refine fkM ?_ ?_) <;> intro h) | refine MvQ.stay ?_)
  · exfalso; omega
  refine Sat.lp (fun ((k, m) : Nat × (Int × Int)) => ⟨[(6, vi .i64 ((k : Int) + 1)), (0, .c (prs l)), (1, .c (.fnR g rows)), (4, .c (.bp 0 0)), (5, .c (.bp 1 0))], [(1, .box [int m.1, int m.2]), (0, .box [int 0, int 0])], 2⟩) (fun ((k, m) : Nat × (Int × Int)) => k + 1 ≤ l.length ∧ ok m ∧ m = minS (fun a b => decide (lt a b < 0)) (l.take (k + 1))) (fun ((k, m) : Nat × (Int × Int)) => l.length - k) (0, l.getD 0 (0, 0)) [0, 1] ⟨by omega, hok 0 hl.1, e0.symm⟩ (by (refine qis ?_ ?_ <;> (repeat' first | exact rfl | (refine qS ?_; constructor)))) ?_
  rintro ⟨k, m⟩ ⟨hk, hm, hM⟩
  refine Fork.dec (fun hlt => ?_) (fun hlt => ?_)
  · have hlt : k + 1 < l.length := by omega
    have c1 := hg (l.getD (k + 1) (0, 0)) m (hok _ hlt) hm
    have hs := minS_take (lt := fun a b => decide (lt a b < 0)) (l := l) (k := k + 1) (by omega) hlt
    rw [← hM] at hs
    have ho := hok _ hlt
    have e : ((k : Int) + 1).toNat = k + 1 := by omega
    rw [← e] at c1
    (repeat' first | (refine Owe.same ?_; first | refine Owe.o ?_ | refine Owe.mk ?_ ?_) | (refine Fork.same ?_; (first | refine fkD ?_ ?_ | refine fkN ?_ ?_ | refine fkM ?_ ?_) <;> intro h) | ((first | refine OpsL.same ?_ | refine OpsDL.same ?_); first | refine pR c1 rfl rfl ?_) | refine MvQ.stay ?_)
    · rw [e] at h
      rw [if_pos (decide_eq_true h)] at hs
      refine again (k + 1, l.getD (k + 1) (0, 0)) [0, 1] ⟨by omega, ho, hs.symm⟩ (show l.length - (k + 1) < l.length - k by omega) ?_
      rw [← e]
      (refine qis ?_ ?_ <;> (repeat' first | exact rfl | (refine qS ?_; constructor)))
    · rw [e] at h
      rw [if_neg (by simpa using h)] at hs
      exact again (k + 1, m) [0, 1] ⟨by omega, hm, hs.symm⟩ (show l.length - (k + 1) < l.length - k by omega) (by (refine qis ?_ ?_ <;> (repeat' first | exact rfl | (refine qS ?_; constructor))))
  · have : k + 1 = l.length := by omega
    rw [this, List.take_length, ← hq] at hM
    subst hM
    (repeat' first | (refine Owe.same ?_; first | refine Owe.o ?_ | refine Owe.mk ?_ ?_) | (refine Fork.same ?_; (first | refine fkD ?_ ?_ | refine fkN ?_ ?_ | refine fkM ?_ ?_) <;> intro h) | refine MvQ.stay ?_)
    (refine rqK rfl ?_; (repeat' first | exact rfl | (refine qS ?_; constructor)))
end Go.Pw

set_option linter.unusedVariables false
set_option maxHeartbeats 2000000
set_option maxRecDepth 100000
namespace Go.Pw
open Go Go.Proofs
/-- moonpool/dive.BestPrice -/
def lc40u : LCode :=
  (.seq (.region [⟨some 2, .boxS (.tmp 0), none⟩, ⟨some 3, .boxS (.tmp 1), none⟩, ⟨some 4, .alloc [(.int .i64 0), (.int .i64 0)], none⟩, ⟨some 5, .alloc [(.int .i64 0), (.int .i64
    0)], none⟩, ⟨some 6, .mv (.const (.int .i64 0)), none⟩]) (.seq (.region [⟨some 14, .load true 8 (.tmp 2), none⟩, ⟨some 15, .load true 5 (.tmp 3), none⟩, ⟨some 16, .call (.func
    66) [(.tmp 14), (.tmp 15)], none⟩, ⟨some 13, .mv (.tmp 16), none⟩, ⟨some 17, .ext (.tmp 13) 0, none⟩, ⟨some 18, .ext (.tmp 13) 1, none⟩, ⟨some 7, .alloc [(.slice none 0 0),
    (.slice none 0 0), (.slice none 0 0), (.slice none 0 0), (.int .i64 0), (.int .i64 0), (.int .i64 0), (.int .i64 0), (.int .i64 0), (.int .i64 0), (.int .i64 0), (.int .i64 0),
    (.slice none 0 0)], none⟩, ⟨none, .store 13 (.tmp 7) (.tmp 17), none⟩, ⟨some 8, .mv (.tmp 18), none⟩]) (.seq (.seq (.region [⟨some 19, .mv (.tmp 8), none⟩, ⟨some 20, .bin .neq
    (.tmp 19) (.const (.int .i64 0)), none⟩]) (.cond (.tmp 20) (.seq (.region [⟨some 21, .build [(.int .i64 0), (.int .i64 0)] [], none⟩, ⟨some 22, .build [(.int .i64 0), (.int .i64
    0)] [], none⟩, ⟨some 23, .mv (.tmp 8), none⟩, ⟨none, .store 2 (.tmp 4) (.tmp 21), none⟩, ⟨none, .store 2 (.tmp 5) (.tmp 22), none⟩, ⟨some 6, .mv (.tmp 23), none⟩]) .ret) .skip))
    (.seq (.region [⟨some 24, .build [(.int .i64 0), (.int .i64 0)] [(1, 1, (.const (.int .i64 1)))], none⟩, ⟨some 25, .lit true 74 2 [(.tmp 24)], none⟩, ⟨some 9, .mv (.tmp 25),
    none⟩]) (.seq (.seq (.region [⟨some 26, .fld 0 (.tmp 7), none⟩, ⟨some 27, .fld 0 (.tmp 26), none⟩, ⟨some 28, .load false 1 (.tmp 27), none⟩, ⟨some 29, .len (.tmp 28), none⟩,
    ⟨some 30, .mv (.const (.int .i64 0)), none⟩]) (.block 0 (.loop (.seq (.region [⟨some 31, .bin .lss (.tmp 30) (.tmp 29), none⟩]) (.seq (.cond (.tmp 31) .skip (.exit 0)) (.seq
    (.block 1 (.seq (.region [⟨some 32, .mv (.tmp 30), none⟩, ⟨some 33, .idx 9 (.tmp 28) (.tmp 30), none⟩, ⟨some 34, .load true 9 (.tmp 33), none⟩, ⟨some 11, .alloc [(.string
    ⟨#[]⟩), (.int .i64 0), (.int .i64 0), (.int .i64 0), (.int .i64 0), (.int .i64 0), (.int .i64 0), (.int .i64 0), (.slice none 0 0)], none⟩, ⟨some 10, .mv (.tmp 32), none⟩,
    ⟨none, .store 9 (.tmp 11) (.tmp 34), none⟩]) (.seq (.region [⟨some 35, .load true 13 (.tmp 7), none⟩, ⟨some 36, .mv (.tmp 10), none⟩, ⟨some 37, .call (.func 57) [(.tmp 35),
    (.tmp 36)], none⟩, ⟨some 38, .un .not (.tmp 37), none⟩, ⟨some 39, .mv (.tmp 38), none⟩, ⟨some 40, .fld 3 (.tmp 11), some (39, true)⟩, ⟨some 41, .load false 1 (.tmp 40), some
    (39, true)⟩, ⟨some 42, .bin .gtr (.tmp 41) (.const (.int .i64 0)), some (39, true)⟩, ⟨some 43, .pick (.tmp 39) (.tmp 42) (.const (.bool false)), none⟩]) (.cond (.tmp 43)
    (.region [⟨some 44, .mv (.tmp 9), none⟩, ⟨some 45, .fld 5 (.tmp 11), none⟩, ⟨some 46, .load false 1 (.tmp 45), none⟩, ⟨some 47, .fld 3 (.tmp 11), none⟩, ⟨some 48, .load false 1
    (.tmp 47), none⟩, ⟨some 49, .call (.func 86) [(.tmp 46), (.tmp 48)], none⟩, ⟨some 50, .lit false 74 2 [(.tmp 49)], none⟩, ⟨some 51, .append true 74 2 16 (.tmp 44) (.tmp 50),
    none⟩, ⟨some 9, .mv (.tmp 51), none⟩]) .skip)))) (.region [⟨some 52, .bin .add (.tmp 30) (.const (.int .i64 1)), none⟩, ⟨some 30, .mv (.tmp 52), none⟩]))))))) (.seq (.stop
    (.region [⟨some 53, .mv (.tmp 9), none⟩, ⟨some 54, .mkfn 88 [(.tmp 7)], none⟩, ⟨some 55, .call (.func 87) [(.tmp 53), (.tmp 54)], none⟩, ⟨some 12, .alloc [(.int .i64 0), (.int
    .i64 0)], none⟩, ⟨none, .store 2 (.tmp 12) (.tmp 55), none⟩])) (.seq (.regionD [⟨some 56, .load true 2 (.tmp 12), none⟩, ⟨some 57, .load true 13 (.tmp 7), none⟩, ⟨some 58, .load
    true 2 (.tmp 12), none⟩, ⟨some 59, .call (.func 85) [(.tmp 57), (.tmp 58)], none⟩, ⟨none, .store 2 (.tmp 4) (.tmp 56), none⟩, ⟨none, .store 2 (.tmp 5) (.tmp 59), none⟩, ⟨some 6,
    .mv (.const (.int .i64 0)), none⟩] [0, 0, 0, 6, 15, 31, 63] [0, 1, 2, 3, 4, 5, 6]) .ret)))))))
theorem low40u : lowF Tryz.prog [2, 3, 25, 51] Tryz.f40 = some (60, lc40u.strip, [.cell 4 true 2, .cell 5 true 2, .tmp 6]) := by kernel_rfl
theorem fn40u : FnOk Tryz.prog 40 60 lc40u [.cell 4 true 2, .cell 5 true 2, .tmp 6] := ⟨Tryz.call40, [2, 3, 25, 51], _, Tryz.func40, low40u⟩
end Go.Pw

set_option linter.unusedSimpArgs false
set_option linter.unusedVariables false
set_option maxHeartbeats 4000000
namespace Go.Pw
set_option maxRecDepth 2000
open Go Go.Proofs A1 A2 A3 A4
/-- The prices that are looked at. -/
def cdL (s : Si) (t : St8) : Nat → List (Int × Int)
  | 0 => [(0, 1)]
  | k + 1 => if (k : Int) ∈ t.d ∨ ¬ (tkA s k).w > 0 then cdL s t k else cdL s t k ++ [frac (tkA s k).v (tkA s k).w]
theorem cdL_pos {s : Si} {t : St8} : ∀ k, 0 < (cdL s t k).length
  | 0 => by simp [cdL]
  | k + 1 => by have := cdL_pos (s := s) (t := t) k; rw [cdL]; split <;> simp <;> omega
theorem cdL_len {s : Si} {t : St8} : ∀ k, (cdL s t k).length ≤ k + 1
  | 0 => by simp [cdL]
  | k + 1 => by have := cdL_len (s := s) (t := t) k; rw [cdL]; split <;> simp <;> omega
theorem cdL_ok {s : Si} {t : St8} (h : SiOk s) : ∀ k, k ≤ s.tk.length → ∀ p ∈ cdL s t k, prOk p
  | 0, _, p, hp => by
    rw [cdL, List.mem_singleton] at hp; subst hp; decide
  | k + 1, hk, p, hp => by
    have ih := cdL_ok h k (by omega) (t := t)
    rw [cdL] at hp
    split at hp
    · exact ih p hp
    · rename_i hn
      have ht := h.t k (by omega)
      have e : tkA s (k : Int) = s.tk.getD k tk0 := by simp only [tkA, Int.toNat_natCast]
      rcases List.mem_append.1 hp with h1 | h1
      · exact ih p h1
      · rw [List.mem_singleton] at h1; subst h1
        have h2 : (tkA s (k : Int)).w ≠ 0 := by
          intro h0; refine hn (.inr ?_); omega
        exact prOk.frac (by rw [e]; exact ht.v) ⟨by rw [e]; exact ht.w, h2⟩
abbrev bsF (s : Si) (t : St8) (k : Nat) : Int × Int := minS (lsB s t) (cdL s t k)
theorem bsF_ok {s : Si} {t : St8} (h : SiOk s) : ∀ k, k ≤ s.tk.length → prOk (bsF s t k)
  | 0, _ => by show prOk (0, 1); decide
  | k + 1, hk => by
    have ih := bsF_ok h k (by omega) (t := t)
    have h2 := cdL_ok h (k + 1) hk (t := t)
    have hp := cdL_pos (s := s) (t := t) k
    have hne : cdL s t k ≠ [] := fun h0 => by rw [h0] at hp; simp at hp
    rw [bsF]
    rw [cdL] at h2 ⊢
    split
    · exact ih
    · rename_i hn
      rw [if_neg hn] at h2
      rw [minS_app hne]
      split
      · exact h2 _ (List.mem_append_right _ (List.mem_singleton.2 rfl))
      · exact ih
abbrev bpr (s : Si) (t : St8) : Int × Int := bsF s t s.tk.length
theorem C40 {s : Si} {t : St8} : (SiSm s ∧ t.d.length ≤ 1000000) → PFD Tryz.prog 40 [siv s, stv t] (.tup [frv (if orE s t = 0 then bpr s t else (0, 0)), frv (if orE s t = 0 then bdF s t (bpr s t) else (0, 0)), vi .i64 (orE s t)]) := fun hs => by
  have c1 := C66 (s := s) (t := t) hs
  by_cases h0 : orE s t = 0
  rotate_left
  · rw [if_neg h0, if_neg h0]
    generalize orE s t = e at *
    refine pi3 fn40u ?_
    (repeat' first | (refine Owe.same ?_; first | refine Owe.o ?_ | refine Owe.mk ?_ ?_) | (refine Fork.same ?_; (first | refine fkY ?_ | refine fkF ?_ | ((first | refine fkD ?_ ?_ | refine fkN ?_ ?_ | refine fkM ?_ ?_) <;> intro h))) | ((first | refine OpsL.same ?_ | refine OpsDL.same ?_); first | refine oK c1 rfl rfl rfl ?_) | refine MvQ.stay ?_)
    (refine rqK rfl ?_; (repeat' first | exact rfl | (refine qS ?_; constructor)))
  have hO : OnOk s t := by
    rw [orE] at h0
    split at h0
    · rename_i h1; exact OnOk.of h1
    · rename_i h1; exact absurd h0 h1
  have n6 := hO.ok.n
  have ld := hO.dl
  rw [if_pos h0, if_pos h0]
  rw [h0] at c1 ⊢
  have hB := bsF_ok hO.ok s.tk.length (Nat.le_refl _) (t := t)
  have c5 := C85 (s := s) (t := t) (p := bpr s t) ⟨hO, hB⟩
  have c4 := C87 (g := 88) (rows := [diD s t]) (l := cdL s t s.tk.length) (ok := prOk) (lt := lsI s t) ⟨cdL_pos _, by have := cdL_len (s := s) (t := t) s.tk.length; omega⟩ (fun i hi => cdL_ok hO.ok _ (Nat.le_refl _) _ (getD_mem (0, 0) hi)) (fun a b ha hb => C88 ⟨hO, ha, hb⟩)
  change PFD Tryz.prog 87 _ (frv (bpr s t)) at c4
  generalize bdF s t (bpr s t) = F at *
  generalize bpr s t = B at *
  refine pi3 fn40u ?_
  (repeat' first | (refine Owe.same ?_; first | refine Owe.o ?_ | refine Owe.mk ?_ ?_) | (refine Fork.same ?_; (first | refine fkY ?_ | refine fkF ?_ | ((first | refine fkD ?_ ?_ | refine fkN ?_ ?_ | refine fkM ?_ ?_) <;> intro h))) | ((first | refine OpsL.same ?_ | refine OpsDL.same ?_); first | refine oK c1 rfl rfl rfl ?_) | refine MvQ.stay ?_)
  (repeat' first | (refine Owe.same ?_; first | refine Owe.o ?_ | refine Owe.mk ?_ ?_) | (refine Fork.same ?_; (first | refine fkD ?_ ?_ | refine fkN ?_ ?_ | refine fkM ?_ ?_) <;> intro h) | refine MvQ.stay ?_)
  refine SatL.frB 2 [7] rfl rfl ?_
  show SatL _ _ _ _ _ _
  refine Sat.lp (fun k : Nat => ⟨[(30, vi .i64 k), (29, vi .i64 s.tk.length), (28, .c (tks s.tk)), (9, .c (.ms 2 (cdL s t k).length)), (7, .c (.rp (diD s t))), (6, vi .i64 0), (5, .c (.bp 1 0)), (4, .c (.bp 0 0))], [(2, rowv 74 2 r2 (0, 0) (cdL s t k)), (1, .box [int 0, int 0]), (0, .box [int 0, int 0])], 3⟩) (fun k => k ≤ s.tk.length) (fun k => s.tk.length - k) 0 [0, 1, 3] (Nat.zero_le _) ?_ ?_
  · (refine qis ?_ ?_ <;> (repeat' first | exact rfl | (refine qS ?_; constructor)))
  intro k hk
  refine Fork.dec (fun hlt => ?_) (fun hlt => ?_)
  · have hlt : k < s.tk.length := by omega
    have hcl := cdL_len (s := s) (t := t) k
    have ht := hO.ok.t k hlt
    have hv := ht.v
    have hw := ht.w
    have c2 := C57 (s := s) (t := t) (n := (k : Int)) (by omega)
    have e0 : tkA s (k : Int) = s.tk.getD k tk0 := by simp only [tkA, Int.toNat_natCast]
    by_cases hm : (k : Int) ∈ t.d
    · have e : cdL s t (k + 1) = cdL s t k := by rw [cdL, if_pos (.inl hm)]
      rw [decide_eq_true hm] at c2
      (repeat' first | (refine Owe.same ?_; first | refine Owe.o ?_ | refine Owe.mk ?_ ?_) | (refine Fork.same ?_; (first | refine fkY ?_ | refine fkF ?_ | ((first | refine fkD ?_ ?_ | refine fkN ?_ ?_ | refine fkM ?_ ?_) <;> intro h))) | ((first | refine OpsL.same ?_ | refine OpsDL.same ?_); first | refine oK c2 rfl rfl rfl ?_) | refine MvQ.stay ?_)
      refine again (k + 1) [0, 1, 2] hlt (by omega) ?_
      rw [e]
      (refine qis ?_ ?_ <;> (repeat' first | exact rfl | (refine qS ?_; constructor)))
    · rw [decide_eq_false hm] at c2
      by_cases hW : (s.tk.getD k tk0).w > 0
      · have e : cdL s t (k + 1) = cdL s t k ++ [frac (s.tk.getD k tk0).v (s.tk.getD k tk0).w] := by
          rw [cdL, if_neg (by rw [e0]; exact fun h => h.elim hm fun h => h hW), e0]
        have c3 := C86 (n := (s.tk.getD k tk0).v) (d := (s.tk.getD k tk0).w) ⟨by simp only [Md]; omega, by simp only [Md]; omega, by omega⟩
        generalize frac (s.tk.getD k tk0).v (s.tk.getD k tk0).w = f at *
        (repeat' first | (refine Owe.same ?_; first | refine Owe.o ?_ | refine Owe.mk ?_ ?_) | (refine Fork.same ?_; (first | refine fkY ?_ | refine fkF ?_ | ((first | refine fkD ?_ ?_ | refine fkN ?_ ?_ | refine fkM ?_ ?_) <;> intro h))) | ((first | refine OpsL.same ?_ | refine OpsDL.same ?_); first | refine oK c2 rfl rfl rfl ?_ | refine oK c3 rfl rfl rfl ?_) | refine MvQ.stay ?_)
        · refine again (k + 1) [0, 1, 4] hlt (by omega) ?_
          (refine qis ?_ ?_ <;> (repeat' first | exact rfl | (refine qS ?_; constructor)))
          · rw [e]; simp
          · exact e
        · exact absurd hW h
      · have e : cdL s t (k + 1) = cdL s t k := by rw [cdL, if_pos (.inr (by rw [e0]; exact hW))]
        (repeat' first | (refine Owe.same ?_; first | refine Owe.o ?_ | refine Owe.mk ?_ ?_) | (refine Fork.same ?_; (first | refine fkY ?_ | refine fkF ?_ | ((first | refine fkD ?_ ?_ | refine fkN ?_ ?_ | refine fkM ?_ ?_) <;> intro h))) | ((first | refine OpsL.same ?_ | refine OpsDL.same ?_); first | refine oK c2 rfl rfl rfl ?_) | refine MvQ.stay ?_)
        · exact absurd h hW
        · refine again (k + 1) [0, 1, 2] hlt (by omega) ?_
          rw [e]
          (refine qis ?_ ?_ <;> (repeat' first | exact rfl | (refine qS ?_; constructor)))
  · obtain rfl : k = s.tk.length := by omega
    (repeat' first | (refine Owe.same ?_; first | refine Owe.o ?_ | refine Owe.mk ?_ ?_) | (refine Fork.same ?_; (first | refine fkD ?_ ?_ | refine fkN ?_ ?_ | refine fkM ?_ ?_) <;> intro h) | refine MvQ.stay ?_)
    refine SatL.frz 9 2 rfl rfl (Nat.le_refl _) ?_
    refine SatL.go ?_
    (repeat' first | (refine Owe.same ?_; first | refine Owe.o ?_ | refine Owe.mk ?_ ?_) | (refine Fork.same ?_; (first | refine fkY ?_ | refine fkF ?_ | ((first | refine fkD ?_ ?_ | refine fkN ?_ ?_ | refine fkM ?_ ?_) <;> intro h))) | ((first | refine OpsL.same ?_ | refine OpsDL.same ?_); first | refine oK c4 rfl rfl rfl ?_ | refine oK c5 rfl rfl rfl ?_) | refine MvQ.stay ?_)
    (refine rqK rfl ?_; (repeat' first | exact rfl | (refine qS ?_; constructor)))
end Go.Pw

set_option linter.unusedSimpArgs false
set_option linter.unusedVariables false
set_option maxHeartbeats 4000000
namespace Go.Pw
set_option maxRecDepth 2000
open Go Go.Proofs A1 A2 A3 A4
theorem C118w {a : Int} : (-9223372036854775807 ≤ a ∧ a ≤ 9223372036854775807) → PFD Tryz.prog 118 [vi .i64 a] (vi .i64 (max a (-a))) := fun ha => by
  refine pi1 fn118 ?_
  (repeat' first | (refine Owe.same ?_; first | refine Owe.o ?_ | refine Owe.mk ?_ ?_) | (refine Fork.same ?_; (first | refine fkD ?_ ?_ | refine fkN ?_ ?_ | refine fkM ?_ ?_) <;> intro h) | refine MvQ.stay ?_)
  (refine rqK rfl ?_; (repeat' first | exact rfl | (refine qS ?_; constructor)))
theorem C91w {a b : Int} : (w64 a ∧ w64 b ∧ 0 < b) → PFD Tryz.prog 91 [vi .i64 a, vi .i64 b] (vi .i64 (gcdI a b)) := fun ⟨ha, hb, h0⟩ => by
  refine pi1 fn91 ?_
  (repeat' first | (refine Owe.same ?_; first | refine Owe.o ?_ | refine Owe.mk ?_ ?_) | (refine Fork.same ?_; (first | refine fkD ?_ ?_ | refine fkN ?_ ?_ | refine fkM ?_ ?_) <;> intro h) | refine MvQ.stay ?_)
  refine Sat.lp0 (fun p : Int × Int => [(0, vi .i64 p.1), (1, vi .i64 p.2)]) (fun p => ((-9223372036854775808 ≤ p.1 ∧ p.1 ≤ 9223372036854775807) ∧ (-9223372036854775807 ≤ p.2 ∧ p.2 ≤ 9223372036854775807) ∧ (p.2 = 0 → -9223372036854775807 ≤ p.1)) ∧ Int.gcd p.1 p.2 = Int.gcd a b) (fun p => p.2.natAbs) (a, b) ⟨⟨by omega, by omega, by intro h; omega⟩, rfl⟩ (by ((first | refine qen ?_ | refine qvs ?_ | refine qeq ?_ | refine qst ?_ | refine qv ?_ | refine qc ?_ | refine qe ?_ | refine qcs ?_ | skip); (repeat' first | exact rfl | (refine qS ?_; constructor)))) ?_
  rintro ⟨x, y⟩ ⟨⟨m1, m2, m3⟩, hg⟩
  dsimp only at m1 m2 m3
  have m4 : y = 0 → -9223372036854775807 ≤ x := m3
  (repeat' first | (refine Owe.same ?_; first | refine Owe.o ?_ | refine Owe.mk ?_ ?_) | (refine Fork.same ?_; (first | refine fkD ?_ ?_ | refine fkN ?_ ?_ | refine fkM ?_ ?_) <;> intro h) | ((first | refine OpsL.same ?_ | refine OpsDL.same ?_); first | refine pK C118w rfl rfl ?_) | refine MvQ.stay ?_)
  · have hne : y ≠ 0 := h
    have h1 := tmod_abs (a := x) hne
    exact again0 (y, x.tmod y) ⟨⟨by dsimp only; omega, by dsimp only; omega, fun _ => by dsimp only; omega⟩, by rw [gcd_step]; exact hg⟩ h1 (by ((first | refine qen ?_ | refine qvs ?_ | refine qeq ?_ | refine qst ?_ | refine qv ?_ | refine qc ?_ | refine qe ?_ | refine qcs ?_ | skip); (repeat' first | exact rfl | (refine qS ?_; constructor))))
  · (refine rqK rfl ?_; (repeat' first | exact rfl | (refine qS ?_; constructor)))
    have h : y = 0 := h
    subst h
    exact (gcd_zero x).symm.trans (by simp only [gcdI]; rw [← hg])
theorem C83w {a b : Int} : (w64 a ∧ w64 b ∧ 0 < b) → PFD Tryz.prog 83 [vi .i64 a, vi .i64 b] (vi .i64 (gcdI a b)) := fun ⟨ha, hb, h0⟩ => by
  refine pi1 fn83 ?_
  (repeat' first | (refine Owe.same ?_; first | refine Owe.o ?_ | refine Owe.mk ?_ ?_) | (refine Fork.same ?_; (first | refine fkD ?_ ?_ | refine fkN ?_ ?_ | refine fkM ?_ ?_) <;> intro h) | refine MvQ.stay ?_)
  refine Sat.lp0 (fun p : Int × Int => [(0, vi .i64 p.1), (1, vi .i64 p.2)]) (fun p => ((-9223372036854775808 ≤ p.1 ∧ p.1 ≤ 9223372036854775807) ∧ (-9223372036854775807 ≤ p.2 ∧ p.2 ≤ 9223372036854775807) ∧ (p.2 = 0 → -9223372036854775807 ≤ p.1)) ∧ Int.gcd p.1 p.2 = Int.gcd a b) (fun p => p.2.natAbs) (a, b) ⟨⟨by omega, by omega, by intro h; omega⟩, rfl⟩ (by ((first | refine qen ?_ | refine qvs ?_ | refine qeq ?_ | refine qst ?_ | refine qv ?_ | refine qc ?_ | refine qe ?_ | refine qcs ?_ | skip); (repeat' first | exact rfl | (refine qS ?_; constructor)))) ?_
  rintro ⟨x, y⟩ ⟨⟨m1, m2, m3⟩, hg⟩
  dsimp only at m1 m2 m3
  have m4 : y = 0 → -9223372036854775807 ≤ x := m3
  (repeat' first | (refine Owe.same ?_; first | refine Owe.o ?_ | refine Owe.mk ?_ ?_) | (refine Fork.same ?_; (first | refine fkD ?_ ?_ | refine fkN ?_ ?_ | refine fkM ?_ ?_) <;> intro h) | refine MvQ.stay ?_)
  · have hne : y ≠ 0 := h
    have h1 := tmod_abs (a := x) hne
    exact again0 (y, x.tmod y) ⟨⟨by dsimp only; omega, by dsimp only; omega, fun _ => by dsimp only; omega⟩, by rw [gcd_step]; exact hg⟩ h1 (by ((first | refine qen ?_ | refine qvs ?_ | refine qeq ?_ | refine qst ?_ | refine qv ?_ | refine qc ?_ | refine qe ?_ | refine qcs ?_ | skip); (repeat' first | exact rfl | (refine qS ?_; constructor))))
  · have h : y = 0 := by omega
    subst h
    have := m3 rfl
    (repeat' first | (refine Owe.same ?_; first | refine Owe.o ?_ | refine Owe.mk ?_ ?_) | (refine Fork.same ?_; (first | refine fkD ?_ ?_ | refine fkN ?_ ?_ | refine fkM ?_ ?_) <;> intro h) | refine MvQ.stay ?_)
    (refine rqK rfl ?_; (repeat' first | exact rfl | (refine qS ?_; constructor)))
    exact (gcd_zero x).symm.trans (by simp only [gcdI]; rw [← hg])
abbrev lwP (p : Int × Int) : Prop := 0 < p.2 ∧ gcdI p.1 p.2 = 1
theorem C44 {p : Int × Int} : (w64 p.1 ∧ w64 p.2) → PFD Tryz.prog 44 [frv p] (vbl (decide (lwP p))) := fun h => by
  obtain ⟨q, hq⟩ : ∃ q, q = decide (lwP p) := ⟨_, rfl⟩
  rw [← hq]
  by_cases h0 : 0 < p.2
  · have c1 := C91w (a := p.1) (b := p.2) ⟨h.1, h.2, h0⟩
    replace hq : q = decide (gcdI p.1 p.2 = 1) := by rw [hq, decide_eq_decide]; exact ⟨fun h => h.2, fun h => ⟨h0, h⟩⟩
    generalize gcdI p.1 p.2 = g at *
    refine pi1 fn44 ?_
    (repeat' first | (refine Owe.same ?_; first | refine Owe.o ?_ | refine Owe.mk ?_ ?_) | (refine Fork.same ?_; (first | refine fkY ?_ | refine fkF ?_ | ((first | refine fkD ?_ ?_ | refine fkN ?_ ?_ | refine fkM ?_ ?_) <;> intro h))) | ((first | refine OpsL.same ?_ | refine OpsDL.same ?_); first | refine oK c1 rfl rfl rfl ?_) | refine MvQ.stay ?_)
    subst hq
    (refine rqK rfl ?_; (repeat' first | exact rfl | (refine qS ?_; constructor)))
  · have hq : q = false := by rw [hq, decide_eq_false_iff_not]; exact fun h => h0 h.1
    subst hq
    refine pi1 fn44 ?_
    (repeat' first | (refine Owe.same ?_; first | refine Owe.o ?_ | refine Owe.mk ?_ ?_) | (refine Fork.same ?_; (first | refine fkY ?_ | refine fkF ?_ | ((first | refine fkD ?_ ?_ | refine fkN ?_ ?_ | refine fkM ?_ ?_) <;> intro h))) | ((first | refine OpsL.same ?_ | refine OpsDL.same ?_); first | refine oK C75 rfl rfl rfl ?_) | refine MvQ.stay ?_)
    (refine rqK rfl ?_; (repeat' first | exact rfl | (refine qS ?_; constructor)))
/-- The error of a price. -/
def prcE (p : Int × Int) : Int := fstE [unl (lwP p) 3, unl (isN p.1 ∧ isN p.2) 2]
theorem prcE_ok {p : Int × Int} : prcE p = 0 ↔ lwP p ∧ isN p.1 ∧ isN p.2 := by
  rw [prcE, fst2, unl0 (by decide), unl0 (by decide)]
theorem prcE.ok {p : Int × Int} (h : prcE p = 0) : prOk p := by
  obtain ⟨h1, h2, h3⟩ := prcE_ok.1 h
  exact ⟨h2, h1.1, h3.2⟩
theorem C42 {p : Int × Int} : (w64 p.1 ∧ w64 p.2) → PFD Tryz.prog 42 [frv p] (vi .i64 (prcE p)) := fun h => by
  have c1 := C44 (p := p) h
  by_cases hl : lwP p
  · have e : prcE p = unl (isN p.1 ∧ isN p.2) 2 := by
      rw [prcE, fstE, if_pos (by rw [unl, decide_eq_true hl]; rfl), fstE]; split
      · rename_i h; rw [h]; rfl
      · rfl
    have hp := hl.1
    rw [decide_eq_true hl] at c1
    by_cases hn : isN p.1 ∧ isN p.2
    · rw [unl, decide_eq_true hn] at e
      rw [e]
      refine pi1 fn42 ?_
      (repeat' first | (refine Owe.same ?_; first | refine Owe.o ?_ | refine Owe.mk ?_ ?_) | (refine Fork.same ?_; (first | refine fkY ?_ | refine fkF ?_ | ((first | refine fkD ?_ ?_ | refine fkN ?_ ?_ | refine fkM ?_ ?_) <;> intro h))) | ((first | refine OpsL.same ?_ | refine OpsDL.same ?_); first | refine oK c1 rfl rfl rfl ?_) | refine MvQ.stay ?_)
      (refine rqK rfl ?_; (repeat' first | exact rfl | (refine qS ?_; constructor)))
    · rw [unl, decide_eq_false hn] at e
      rw [e]
      refine pi1 fn42 ?_
      (repeat' first | (refine Owe.same ?_; first | refine Owe.o ?_ | refine Owe.mk ?_ ?_) | (refine Fork.same ?_; (first | refine fkY ?_ | refine fkF ?_ | ((first | refine fkD ?_ ?_ | refine fkN ?_ ?_ | refine fkM ?_ ?_) <;> intro h))) | ((first | refine OpsL.same ?_ | refine OpsDL.same ?_); first | refine oK c1 rfl rfl rfl ?_) | refine MvQ.stay ?_)
      all_goals (refine rqK rfl ?_; (repeat' first | exact rfl | (refine qS ?_; constructor)))
  · have e : prcE p = 3 := by
      rw [prcE, fstE, unl, decide_eq_false hl]; rfl
    rw [decide_eq_false hl] at c1
    rw [e]
    refine pi1 fn42 ?_
    (repeat' first | (refine Owe.same ?_; first | refine Owe.o ?_ | refine Owe.mk ?_ ?_) | (refine Fork.same ?_; (first | refine fkY ?_ | refine fkF ?_ | ((first | refine fkD ?_ ?_ | refine fkN ?_ ?_ | refine fkM ?_ ?_) <;> intro h))) | ((first | refine OpsL.same ?_ | refine OpsDL.same ?_); first | refine oK c1 rfl rfl rfl ?_) | refine MvQ.stay ?_)
    (refine rqK rfl ?_; (repeat' first | exact rfl | (refine qS ?_; constructor)))
def bdE (s : Si) (t : St8) (p : Int × Int) : Int := if orE s t = 0 then prcE p else orE s t
theorem bdE_of {s : Si} {t : St8} {p : Int × Int} {b1 b2 : Bool} (h1 : b1 = decide (lwP p)) (h2 : b2 = decide (isN p.1 ∧ isN p.2)) : fstE [orE s t, unb b1 3, unb b2 2] = bdE s t p := by
  subst h1; subst h2
  rw [fstE, bdE]; rfl
theorem orE.ok {s : Si} {t : St8} (h0 : orE s t = 0) : OnOk s t := by
  rw [orE] at h0
  split at h0
  · rename_i h1; exact OnOk.of h1
  · rename_i h1; exact absurd h0 h1
theorem lb_t {p : Int × Int} (h : 0 < p.2) : decide (gcdI p.1 p.2 = 1) = decide (lwP p) := decide_eq_decide.2 ⟨fun h1 => ⟨h, h1⟩, fun h1 => h1.2⟩
theorem lb_f {p : Int × Int} (h : ¬ 0 < p.2) : false = decide (lwP p) := (decide_eq_false fun h1 => h h1.1).symm
theorem nb_t {p : Int × Int} (h : isN p.1) : decide (isN p.2) = decide (isN p.1 ∧ isN p.2) := decide_eq_decide.2 ⟨fun h1 => ⟨h, h1⟩, fun h1 => h1.2⟩
theorem nb_f {p : Int × Int} (h : ¬ isN p.1) : false = decide (isN p.1 ∧ isN p.2) := (decide_eq_false fun h1 => h h1.1).symm
theorem C39 {s : Si} {t : St8} {p : Int × Int} : (SiSm s ∧ t.d.length ≤ 1000000 ∧ w64 p.1 ∧ w64 p.2) → PFD Tryz.prog 39 [siv s, stv t, frv p] (.tup [frv (if bdE s t p = 0 then bdF s t p else (0, 0)), vi .i64 (bdE s t p)]) := fun ⟨hs, hd, hp⟩ => by
  have c1 := C66 (s := s) (t := t) ⟨hs, hd⟩
  have c5 : bdE s t p = 0 → PFD Tryz.prog 85 [div s t, frv p] (frv (if bdE s t p = 0 then bdF s t p else (0, 0))) := fun h => by
    rw [if_pos h]
    rw [bdE] at h
    split at h
    · rename_i h0
      exact C85 ⟨orE.ok h0, prcE.ok h⟩
    · rename_i h0; exact absurd h h0
  have n0 : ¬ bdE s t p = 0 → (0, 0) = (if bdE s t p = 0 then bdF s t p else (0, 0)) := fun h => (if_neg h).symm
  have of := @bdE_of s t p
  generalize (if bdE s t p = 0 then bdF s t p else (0, 0)) = R at *
  generalize bdE s t p = E at *
  generalize orE s t = oe at *
  refine pi2 fn39 ?_
  (repeat' first | (refine Owe.same ?_; first | refine Owe.o ?_ | refine Owe.mk ?_ ?_) | (refine Fork.same ?_; (first | refine fkD ?_ ?_ | refine fkN ?_ ?_ | refine fkM ?_ ?_) <;> intro h) | ((first | refine OpsL.same ?_ | refine OpsDL.same ?_); first | refine pK c1 rfl rfl ?_ | refine pK C83w rfl rfl ?_ | refine pK C55 rfl rfl ?_ | refine pK C84 rfl rfl ?_ | refine pK C54 rfl rfl ?_) | refine MvQ.stay ?_)
  · rename_i hA hB
    have e := of (lb_t hA) (nb_t hB)
    rw [e] at h
    have e0 := n0 h
    subst e0
    (repeat' first | (refine Owe.same ?_; first | refine Owe.o ?_ | refine Owe.mk ?_ ?_) | (refine Fork.same ?_; (first | refine fkD ?_ ?_ | refine fkN ?_ ?_ | refine fkM ?_ ?_) <;> intro h) | refine MvQ.stay ?_)
    (refine rqK rfl ?_; (repeat' first | exact rfl | (refine qS ?_; constructor)))
    exact e
  · rename_i hA hB
    have e := of (lb_t hA) (nb_t hB)
    rw [e] at h
    have c6 := c5 h
    subst h
    (repeat' first | (refine Owe.same ?_; first | refine Owe.o ?_ | refine Owe.mk ?_ ?_) | (refine Fork.same ?_; (first | refine fkY ?_ | refine fkF ?_ | ((first | refine fkD ?_ ?_ | refine fkN ?_ ?_ | refine fkM ?_ ?_) <;> intro h))) | ((first | refine OpsL.same ?_ | refine OpsDL.same ?_); first | refine oK c6 rfl rfl rfl ?_) | refine MvQ.stay ?_)
    (refine rqK rfl ?_; (repeat' first | exact rfl | (refine qS ?_; constructor)))
  · rename_i hA hB
    have e := of (lb_t hA) (nb_f hB)
    rw [e] at h
    have e0 := n0 h
    subst e0
    (repeat' first | (refine Owe.same ?_; first | refine Owe.o ?_ | refine Owe.mk ?_ ?_) | (refine Fork.same ?_; (first | refine fkD ?_ ?_ | refine fkN ?_ ?_ | refine fkM ?_ ?_) <;> intro h) | refine MvQ.stay ?_)
    (refine rqK rfl ?_; (repeat' first | exact rfl | (refine qS ?_; constructor)))
    exact e
  · rename_i hA hB
    have e := of (lb_t hA) (nb_f hB)
    rw [e] at h
    have c6 := c5 h
    subst h
    (repeat' first | (refine Owe.same ?_; first | refine Owe.o ?_ | refine Owe.mk ?_ ?_) | (refine Fork.same ?_; (first | refine fkY ?_ | refine fkF ?_ | ((first | refine fkD ?_ ?_ | refine fkN ?_ ?_ | refine fkM ?_ ?_) <;> intro h))) | ((first | refine OpsL.same ?_ | refine OpsDL.same ?_); first | refine oK c6 rfl rfl rfl ?_) | refine MvQ.stay ?_)
    (refine rqK rfl ?_; (repeat' first | exact rfl | (refine qS ?_; constructor)))
  · rename_i hA hB
    have e := of (lb_f hA) (nb_t hB)
    rw [e] at h
    have e0 := n0 h
    subst e0
    (repeat' first | (refine Owe.same ?_; first | refine Owe.o ?_ | refine Owe.mk ?_ ?_) | (refine Fork.same ?_; (first | refine fkD ?_ ?_ | refine fkN ?_ ?_ | refine fkM ?_ ?_) <;> intro h) | refine MvQ.stay ?_)
    (refine rqK rfl ?_; (repeat' first | exact rfl | (refine qS ?_; constructor)))
    exact e
  · rename_i hA hB
    have e := of (lb_f hA) (nb_t hB)
    rw [e] at h
    have c6 := c5 h
    subst h
    (repeat' first | (refine Owe.same ?_; first | refine Owe.o ?_ | refine Owe.mk ?_ ?_) | (refine Fork.same ?_; (first | refine fkY ?_ | refine fkF ?_ | ((first | refine fkD ?_ ?_ | refine fkN ?_ ?_ | refine fkM ?_ ?_) <;> intro h))) | ((first | refine OpsL.same ?_ | refine OpsDL.same ?_); first | refine oK c6 rfl rfl rfl ?_) | refine MvQ.stay ?_)
    (refine rqK rfl ?_; (repeat' first | exact rfl | (refine qS ?_; constructor)))
  · rename_i hA hB
    have e := of (lb_f hA) (nb_f hB)
    rw [e] at h
    have e0 := n0 h
    subst e0
    (repeat' first | (refine Owe.same ?_; first | refine Owe.o ?_ | refine Owe.mk ?_ ?_) | (refine Fork.same ?_; (first | refine fkD ?_ ?_ | refine fkN ?_ ?_ | refine fkM ?_ ?_) <;> intro h) | refine MvQ.stay ?_)
    (refine rqK rfl ?_; (repeat' first | exact rfl | (refine qS ?_; constructor)))
    exact e
  · rename_i hA hB
    have e := of (lb_f hA) (nb_f hB)
    rw [e] at h
    have c6 := c5 h
    subst h
    (repeat' first | (refine Owe.same ?_; first | refine Owe.o ?_ | refine Owe.mk ?_ ?_) | (refine Fork.same ?_; (first | refine fkY ?_ | refine fkF ?_ | ((first | refine fkD ?_ ?_ | refine fkN ?_ ?_ | refine fkM ?_ ?_) <;> intro h))) | ((first | refine OpsL.same ?_ | refine OpsDL.same ?_); first | refine oK c6 rfl rfl rfl ?_) | refine MvQ.stay ?_)
    (refine rqK rfl ?_; (repeat' first | exact rfl | (refine qS ?_; constructor)))
end Go.Pw

set_option linter.unusedSimpArgs false
set_option linter.unusedVariables false
set_option maxHeartbeats 4000000
namespace Go.Pw
set_option maxRecDepth 2000
open Go Go.Proofs A1 A2 A3 A4
/-- The bound by a price as a function of its parts, with a further line. -/
def hkI (s : Si) (t : St8) (c m a b : Int) : Nat → Int
  | 0 => c * b + a * m
  | k + 1 => if (k : Int) ∈ t.d then hkI s t c m a b k else hkI s t c m a b k + max 0 ((tkA s k).v * b - a * (tkA s k).w)
theorem hk_bd {s : Si} {t : St8} {p : Int × Int} : ∀ k, bdP s t p k = hkI s t 0 (t.w - s.res) p.1 p.2 k
  | 0 => by rw [bdP, hkI]; omega
  | k + 1 => by rw [bdP, hkI, hk_bd k]
theorem hk_c {s : Si} {t : St8} {c m a b e : Int} : ∀ k, hkI s t (c + e) m a b k = hkI s t c m a b k + e * b
  | 0 => by rw [hkI, hkI, Int.add_mul]; omega
  | k + 1 => by rw [hkI, hkI, hk_c k]; split <;> omega
theorem hk_m {s : Si} {t : St8} {c m a b e : Int} : ∀ k, hkI s t c (m + e) a b k = hkI s t c m a b k + a * e
  | 0 => by rw [hkI, hkI, Int.mul_add]; omega
  | k + 1 => by rw [hkI, hkI, hk_m k]; split <;> omega
theorem mxg {g x : Int} (h : 0 ≤ g) : max 0 (g * x) = g * max 0 x := by
  rcases Int.le_total 0 x with h1 | h1
  · rw [Int.max_eq_right h1, Int.max_eq_right (Int.mul_nonneg h h1)]
  · have := Int.mul_nonneg h (show 0 ≤ -x by omega)
    rw [Int.mul_neg] at this
    rw [Int.max_eq_left h1, Int.max_eq_left (by omega), Int.mul_zero]
theorem hk_g {s : Si} {t : St8} {c m a b g : Int} (hg : 0 ≤ g) : ∀ k, hkI s t c m (g * a) (g * b) k = g * hkI s t c m a b k
  | 0 => by rw [hkI, hkI]; grind
  | k + 1 => by
    rw [hkI, hkI, hk_g hg k]
    split
    · rfl
    · rw [show (tkA s k).v * (g * b) - g * a * (tkA s k).w = g * ((tkA s k).v * b - a * (tkA s k).w) by grind, mxg hg, Int.mul_add]
theorem mx_cv {la mu x q : Int} (h1 : 0 ≤ la) (h2 : 0 ≤ mu) : max 0 (la * x + mu * q) ≤ la * max 0 x + mu * max 0 q := by
  have a1 := Int.mul_le_mul_of_nonneg_left (Int.le_max_right 0 x) h1
  have a2 := Int.mul_le_mul_of_nonneg_left (Int.le_max_right 0 q) h2
  have a3 := Int.mul_nonneg h1 (Int.le_max_left 0 x)
  have a4 := Int.mul_nonneg h2 (Int.le_max_left 0 q)
  omega
theorem hk_cv {s : Si} {t : St8} {c m x1 x2 q1 q2 la mu : Int} (h1 : 0 ≤ la) (h2 : 0 ≤ mu) : ∀ k, hkI s t c m (la * x1 + mu * q1) (la * x2 + mu * q2) k ≤ la * hkI s t c m x1 x2 k + mu * hkI s t c m q1 q2 k
  | 0 => by rw [hkI, hkI, hkI]; grind
  | k + 1 => by
    have ih := hk_cv (s := s) (t := t) (c := c) (m := m) (x1 := x1) (x2 := x2) (q1 := q1) (q2 := q2) h1 h2 k
    rw [hkI, hkI, hkI]
    split
    · exact ih
    · have e : (tkA s k).v * (la * x2 + mu * q2) - (la * x1 + mu * q1) * (tkA s k).w = la * ((tkA s k).v * x2 - x1 * (tkA s k).w) + mu * ((tkA s k).v * q2 - q1 * (tkA s k).w) := by grind
      have := mx_cv (x := (tkA s k).v * x2 - x1 * (tkA s k).w) (q := (tkA s k).v * q2 - q1 * (tkA s k).w) h1 h2
      rw [e, Int.mul_add, Int.mul_add]
      omega
/-- A convex function that is no greater at a point beyond is no greater at one between. -/
theorem hk_btw {s : Si} {t : St8} {c m x1 x2 q1 q2 b1 b2 : Int} {k : Nat} (hx : 0 < x2) (hq : 0 < q2) (hb : 0 < b2)
    (h : hkI s t c m q1 q2 k * x2 ≤ hkI s t c m x1 x2 k * q2)
    (hl : 0 < b2 * q1 - b1 * q2) (hm : 0 ≤ x2 * b1 - x1 * b2) : hkI s t c m b1 b2 k * x2 ≤ hkI s t c m x1 x2 k * b2 := by
  have hn : 0 < x2 * q1 - x1 * q2 := by
    have e1 : (x2 * q1 - x1 * q2) * b2 = (b2 * q1 - b1 * q2) * x2 + (x2 * b1 - x1 * b2) * q2 := by grind
    have e2 := Int.mul_pos hl hx
    have e3 := Int.mul_nonneg hm (Int.le_of_lt hq)
    exact Int.pos_of_mul_pos_left (b := b2) (by omega) hb |> fun h => h
  have cv := hk_cv (s := s) (t := t) (c := c) (m := m) (x1 := x1) (x2 := x2) (q1 := q1) (q2 := q2) (Int.le_of_lt hl) hm k
  rw [show (b2 * q1 - b1 * q2) * x1 + (x2 * b1 - x1 * b2) * q1 = (x2 * q1 - x1 * q2) * b1 by grind,
    show (b2 * q1 - b1 * q2) * x2 + (x2 * b1 - x1 * b2) * q2 = (x2 * q1 - x1 * q2) * b2 by grind, hk_g (Int.le_of_lt hn)] at cv
  generalize hkI s t c m b1 b2 k = B at *
  generalize hkI s t c m x1 x2 k = X at *
  generalize hkI s t c m q1 q2 k = Q at *
  have m1 := Int.mul_le_mul_of_nonneg_right cv (Int.le_of_lt hx)
  have m2 := Int.mul_le_mul_of_nonneg_left h hm
  refine Int.le_of_mul_le_mul_left (a := x2 * q1 - x1 * q2) ?_ hn
  have e1 : (x2 * q1 - x1 * q2) * (X * b2) = ((b2 * q1 - b1 * q2) * X) * x2 + (x2 * b1 - x1 * b2) * (X * q2) := by grind
  have e2 : (x2 * q1 - x1 * q2) * (B * x2) = (x2 * q1 - x1 * q2) * B * x2 := by grind
  have e3 : ((b2 * q1 - b1 * q2) * X + (x2 * b1 - x1 * b2) * Q) * x2 = ((b2 * q1 - b1 * q2) * X) * x2 + (x2 * b1 - x1 * b2) * (Q * x2) := by grind
  omega
/-- .. the other way round. -/
theorem hk_btw' {s : Si} {t : St8} {c m x1 x2 q1 q2 b1 b2 : Int} {k : Nat} (hx : 0 < x2) (hq : 0 < q2) (hb : 0 < b2)
    (h : hkI s t c m q1 q2 k * x2 ≤ hkI s t c m x1 x2 k * q2)
    (hl : 0 < q2 * b1 - q1 * b2) (hm : 0 ≤ b2 * x1 - b1 * x2) : hkI s t c m b1 b2 k * x2 ≤ hkI s t c m x1 x2 k * b2 := by
  have hn : 0 < q2 * x1 - q1 * x2 := by
    have e1 : (q2 * x1 - q1 * x2) * b2 = (q2 * b1 - q1 * b2) * x2 + (b2 * x1 - b1 * x2) * q2 := by grind
    have e2 := Int.mul_pos hl hx
    have e3 := Int.mul_nonneg hm (Int.le_of_lt hq)
    exact Int.pos_of_mul_pos_left (b := b2) (by omega) hb |> fun h => h
  have cv := hk_cv (s := s) (t := t) (c := c) (m := m) (x1 := x1) (x2 := x2) (q1 := q1) (q2 := q2) (Int.le_of_lt hl) hm k
  rw [show (q2 * b1 - q1 * b2) * x1 + (b2 * x1 - b1 * x2) * q1 = (q2 * x1 - q1 * x2) * b1 by grind,
    show (q2 * b1 - q1 * b2) * x2 + (b2 * x1 - b1 * x2) * q2 = (q2 * x1 - q1 * x2) * b2 by grind, hk_g (Int.le_of_lt hn)] at cv
  generalize hkI s t c m b1 b2 k = B at *
  generalize hkI s t c m x1 x2 k = X at *
  generalize hkI s t c m q1 q2 k = Q at *
  have m1 := Int.mul_le_mul_of_nonneg_right cv (Int.le_of_lt hx)
  have m2 := Int.mul_le_mul_of_nonneg_left h hm
  refine Int.le_of_mul_le_mul_left (a := q2 * x1 - q1 * x2) ?_ hn
  have e1 : (q2 * x1 - q1 * x2) * (X * b2) = ((q2 * b1 - q1 * b2) * X) * x2 + (b2 * x1 - b1 * x2) * (X * q2) := by grind
  have e2 : (q2 * x1 - q1 * x2) * (B * x2) = (q2 * x1 - q1 * x2) * B * x2 := by grind
  have e3 : ((q2 * b1 - q1 * b2) * X + (b2 * x1 - b1 * x2) * Q) * x2 = ((q2 * b1 - q1 * b2) * X) * x2 + (b2 * x1 - b1 * x2) * (Q * x2) := by grind
  omega
/-- The prices that are enough. -/
def cnd (s : Si) (t : St8) (k : Nat) (q1 q2 : Int) : Prop := (q1 = 0 ∧ q2 = 1) ∨ ∃ j : Nat, j < k ∧ (j : Int) ∉ t.d ∧ 0 < (tkA s j).w ∧ q1 = (tkA s j).v ∧ q2 = (tkA s j).w
theorem cnd_pos {s : Si} {t : St8} {k : Nat} {q1 q2 : Int} (h : cnd s t k q1 q2) : 0 < q2 := by
  rcases h with ⟨_, h⟩ | ⟨j, _, _, h, _, h1⟩ <;> omega
theorem cnd_up {s : Si} {t : St8} {k : Nat} {q1 q2 : Int} (h : cnd s t k q1 q2) : cnd s t (k + 1) q1 q2 := by
  rcases h with h | ⟨j, h0, h⟩
  · exact .inl h
  · exact .inr ⟨j, by omega, h⟩
theorem hk_least {s : Si} {t : St8} : ∀ (k : Nat) (c m x1 x2 : Int), (∀ j : Nat, j < k → 0 ≤ (tkA s j).w) → 0 ≤ x1 → 0 < x2 →
    (∃ q1 q2, cnd s t k q1 q2 ∧ hkI s t c m q1 q2 k * x2 ≤ hkI s t c m x1 x2 k * q2) ∨
    (m < 0 ∧ ∀ y1 y2, 0 < y2 → x1 * y2 ≤ y1 * x2 → hkI s t c m y1 y2 k * x2 ≤ hkI s t c m x1 x2 k * y2)
  | 0, c, m, x1, x2, _, h1, h2 => by
    by_cases hm : 0 ≤ m
    · refine .inl ⟨0, 1, .inl ⟨rfl, rfl⟩, ?_⟩
      have := Int.mul_nonneg h1 hm
      rw [hkI, hkI]; grind
    · refine .inr ⟨by omega, fun y1 y2 hy hle => ?_⟩
      have := Int.mul_nonneg (show 0 ≤ -m by omega) (show 0 ≤ y1 * x2 - x1 * y2 by omega)
      rw [hkI, hkI]; grind
  | k + 1, c, m, x1, x2, hw, h1, h2 => by
    have hw' : ∀ j : Nat, j < k → 0 ≤ (tkA s j).w := fun j hj => hw j (by omega)
    by_cases hd : (k : Int) ∈ t.d
    · have e : ∀ a b, hkI s t c m a b (k + 1) = hkI s t c m a b k := fun a b => by rw [hkI, if_pos hd]
      simp only [e]
      rcases hk_least k c m x1 x2 hw' h1 h2 with ⟨q1, q2, hq, h⟩ | h
      · exact .inl ⟨q1, q2, cnd_up hq, h⟩
      · exact .inr h
    have e : ∀ a b, hkI s t c m a b (k + 1) = hkI s t c m a b k + max 0 ((tkA s k).v * b - a * (tkA s k).w) := fun a b => by rw [hkI, if_neg hd]
    have hwk := hw k (by omega)
    obtain ⟨v, hv⟩ : ∃ v, v = (tkA s k).v := ⟨_, rfl⟩
    obtain ⟨w, hw0⟩ : ∃ w, w = (tkA s k).w := ⟨_, rfl⟩
    rw [← hv, ← hw0] at e
    rw [← hw0] at hwk
    by_cases h0 : w = 0
    · have e2 : ∀ a b, 0 < b → hkI s t c m a b (k + 1) = hkI s t (c + max 0 v) m a b k := fun a b hb => by
        rw [e, hk_c, h0, Int.mul_zero, Int.sub_zero, Int.mul_comm v b, mxg (Int.le_of_lt hb), Int.mul_comm b]
      rcases hk_least k (c + max 0 v) m x1 x2 hw' h1 h2 with ⟨q1, q2, hq, h⟩ | ⟨hm, h⟩
      · exact .inl ⟨q1, q2, cnd_up hq, by rw [e2 _ _ h2, e2 _ _ (cnd_pos hq)]; exact h⟩
      · exact .inr ⟨hm, fun y1 y2 hy hle => by rw [e2 _ _ h2, e2 _ _ hy]; exact h y1 y2 hy hle⟩
    have hwp : 0 < w := by omega
    have hcb : cnd s t (k + 1) v w := .inr ⟨k, by omega, hd, by omega, hv, hw0⟩
    -- the pieces of the last term
    have eL : ∀ a b, a * w ≤ v * b → hkI s t c m a b (k + 1) = hkI s t (c + v) (m + -w) a b k := fun a b h => by
      rw [e, hk_c, hk_m, Int.max_eq_right (by omega)]
      have : a * -w = -(a * w) := Int.mul_neg ..
      omega
    have eR : ∀ a b, v * b ≤ a * w → hkI s t c m a b (k + 1) = hkI s t c m a b k := fun a b h => by
      rw [e, Int.max_eq_left (by omega), Int.add_zero]
    have hvw : v * w ≤ v * w := Int.le_refl _
    rcases Int.le_total (x1 * w) (v * x2) with hx | hx
    · rcases hk_least k (c + v) (m + -w) x1 x2 hw' h1 h2 with ⟨q1, q2, hq, h⟩ | ⟨hm, h⟩
      · have hq2 := cnd_pos hq
        by_cases hqb : q1 * w ≤ v * q2
        · exact .inl ⟨q1, q2, cnd_up hq, by rw [eL _ _ hx, eL _ _ hqb]; exact h⟩
        · refine .inl ⟨v, w, hcb, ?_⟩
          rw [eL _ _ hx, eL _ _ hvw]
          refine hk_btw h2 hq2 hwp h ?_ ?_
          · have : w * q1 = q1 * w := Int.mul_comm ..
            omega
          · have : x2 * v = v * x2 := Int.mul_comm ..
            omega
      · refine .inl ⟨v, w, hcb, ?_⟩
        rw [eL _ _ hx, eL _ _ hvw]
        exact h v w hwp hx
    · rcases hk_least k c m x1 x2 hw' h1 h2 with ⟨q1, q2, hq, h⟩ | ⟨hm, h⟩
      · have hq2 := cnd_pos hq
        by_cases hqb : v * q2 ≤ q1 * w
        · exact .inl ⟨q1, q2, cnd_up hq, by rw [eR _ _ hx, eR _ _ hqb]; exact h⟩
        · refine .inl ⟨v, w, hcb, ?_⟩
          rw [eR _ _ hx, eR _ _ hvw]
          refine hk_btw' h2 hq2 hwp h ?_ ?_
          · have : q2 * v = v * q2 := Int.mul_comm ..
            omega
          · have : w * x1 = x1 * w := Int.mul_comm ..
            omega
      · refine .inr ⟨hm, fun y1 y2 hy hle => ?_⟩
        have hyb : v * y2 ≤ y1 * w := by
          have a1 := Int.mul_le_mul_of_nonneg_right hx (Int.le_of_lt hy)
          have a2 := Int.mul_le_mul_of_nonneg_right hle (Int.le_of_lt hwp)
          refine Int.le_of_mul_le_mul_right (a := x2) ?_ h2
          have e1 : v * y2 * x2 = v * x2 * y2 := by grind
          have e2 : x1 * w * y2 = x1 * y2 * w := by grind
          have e3 : y1 * w * x2 = y1 * x2 * w := by grind
          omega
        rw [eR _ _ hx, eR _ _ hyb]
        exact h y1 y2 hy hle
end Go.Pw

set_option linter.unusedSimpArgs false
set_option linter.unusedVariables false
set_option maxHeartbeats 4000000
namespace Go.Pw
set_option maxRecDepth 2000
open Go Go.Proofs A1 A2 A3 A4
theorem frac_g {n d : Int} (hd : 0 < d) : n = gcdI n d * (frac n d).1 ∧ d = gcdI n d * (frac n d).2 := by
  have h1 : gcdI n d ∣ n := Int.gcd_dvd_left ..
  have h2 : gcdI n d ∣ d := Int.gcd_dvd_right ..
  exact ⟨(Int.mul_tdiv_cancel' h1).symm, (Int.mul_tdiv_cancel' h2).symm⟩
theorem frac_lw {n d : Int} (hd : 0 < d) : lwP (frac n d) := by
  have hg := gcd_pos (n := n) hd
  obtain ⟨e1, e2⟩ := frac_g (n := n) hd
  refine ⟨(frac_den (M := d) ⟨hd, Int.le_refl _⟩).1, ?_⟩
  have e : Int.gcd n d = Int.gcd n d * Int.gcd (frac n d).1 (frac n d).2 := by
    have h := Int.gcd_mul_left (gcdI n d) (frac n d).1 (frac n d).2
    rw [← e1, ← e2] at h
    simpa [gcdI] using h
  have hp : 0 < Int.gcd n d := Int.gcd_pos_of_ne_zero_right _ (by omega)
  have := Nat.eq_of_mul_eq_mul_left hp ((Nat.mul_one _).trans e)
  simp only [gcdI, ← this]; rfl
theorem frac_eq {n d : Int} (hd : 0 < d) : (frac n d).1 * d = n * (frac n d).2 := by
  obtain ⟨e1, e2⟩ := frac_g (n := n) hd
  generalize frac n d = f at *
  generalize gcdI n d = g at *
  subst e1; subst e2; grind
abbrev leF (a b : Int × Int) : Prop := a.1 * b.2 ≤ b.1 * a.2
theorem leF_tr {a b c : Int × Int} (ha : 0 < a.2) (hb : 0 < b.2) (hc : 0 < c.2) (h1 : leF a b) (h2 : leF b c) : leF a c := by
  have m1 := Int.mul_le_mul_of_nonneg_right h1 (Int.le_of_lt hc)
  have m2 := Int.mul_le_mul_of_nonneg_right h2 (Int.le_of_lt ha)
  refine Int.le_of_mul_le_mul_right (a := b.2) ?_ hb
  have e1 : a.1 * c.2 * b.2 = a.1 * b.2 * c.2 := by grind
  have e2 : c.1 * a.2 * b.2 = c.1 * b.2 * a.2 := by grind
  have e3 : b.1 * a.2 * c.2 = b.1 * c.2 * a.2 := by grind
  omega
theorem cmpF_le {a b : Int × Int} : cmpF a b ≤ 0 ↔ leF a b := by
  rw [cmpF, cmpI]; split <;> (try split) <;> simp only [leF] <;> omega
theorem lsB_le {s : Si} {t : St8} {a b : Int × Int} : (lsB s t a b = true → leF (bdF s t a) (bdF s t b)) ∧ (lsB s t a b = false → leF (bdF s t b) (bdF s t a)) := by
  have hl : lsB s t a b = decide (fstE [cmpF (bdF s t a) (bdF s t b), cmpF a b] < 0) := rfl
  rw [hl]
  generalize (bdF s t a) = x at *
  generalize (bdF s t b) = y at *
  refine ⟨fun h => fst_le (of_decide_eq_true h), fun h => ?_⟩
  have h := of_decide_eq_false h
  simp only [leF]
  by_cases h2 : x.1 * y.2 < y.1 * x.2
  · exact absurd (by show fstE [cmpF x y, cmpF a b] < 0; exact fst_lt h2) h
  · omega
theorem minS_le {s : Si} {t : St8} (hO : SiOk s) : ∀ (l : List (Int × Int)), (∀ p ∈ l, prOk p) → ∀ x ∈ l, leF (bdF s t (minS (lsB s t) l)) (bdF s t x) := by
  have hd : ∀ p, prOk p → 0 < (bdF s t p).2 := fun p hp => (frac_den hp.2).1
  have key : ∀ (l : List (Int × Int)) (m : Int × Int), prOk m → (∀ p ∈ l, prOk p) → prOk (l.foldl (fun m y => if lsB s t y m = true then y else m) m) ∧ leF (bdF s t (l.foldl (fun m y => if lsB s t y m = true then y else m) m)) (bdF s t m) ∧ ∀ x ∈ l, leF (bdF s t (l.foldl (fun m y => if lsB s t y m = true then y else m) m)) (bdF s t x) := fun l => by
    induction l with
    | nil => exact fun m hm _ => ⟨hm, Int.le_refl _, fun x hx => by cases hx⟩
    | cons y l ih =>
      intro m hm hp
      have hy := hp y (List.mem_cons_self ..)
      have hl : ∀ p ∈ l, prOk p := fun p h => hp p (List.mem_cons_of_mem _ h)
      rw [List.foldl_cons]
      cases hb : lsB s t y m with
      | true =>
        obtain ⟨a1, a2, a3⟩ := ih y hy hl
        simp only [if_true]
        refine ⟨a1, leF_tr (hd _ a1) (hd _ hy) (hd _ hm) a2 (lsB_le.1 hb), fun x hx => ?_⟩
        rcases List.mem_cons.1 hx with h | h
        · subst h; exact a2
        · exact a3 x h
      | false =>
        obtain ⟨a1, a2, a3⟩ := ih m hm hl
        simp only [Bool.false_eq_true, if_false]
        refine ⟨a1, a2, fun x hx => ?_⟩
        rcases List.mem_cons.1 hx with h | h
        · subst h; exact leF_tr (hd _ a1) (hd _ hm) (hd _ hy) a2 (lsB_le.2 hb)
        · exact a3 x h
  intro l hp x hx
  cases l with
  | nil => cases hx
  | cons m l =>
    obtain ⟨_, a2, a3⟩ := key l m (hp m (List.mem_cons_self ..)) fun p h => hp p (List.mem_cons_of_mem _ h)
    rcases List.mem_cons.1 hx with h | h
    · subst h; exact a2
    · exact a3 x h
theorem cdL_cnd {s : Si} {t : St8} : ∀ {k : Nat} {q1 q2 : Int}, cnd s t k q1 q2 → frac q1 q2 ∈ cdL s t k
  | 0, q1, q2, h => by
    rcases h with ⟨h1, h2⟩ | ⟨j, h0, _⟩
    · subst h1; subst h2; rw [cdL]; decide
    · omega
  | k + 1, q1, q2, h => by
    rw [cdL]
    by_cases hk : cnd s t k q1 q2
    · have := cdL_cnd hk
      split
      · exact this
      · exact List.mem_append_left _ this
    · rcases h with h | ⟨j, h0, h1, h2, h3, h4⟩
      · exact absurd (.inl h) hk
      · have : j = k := by
          rcases Nat.lt_or_ge j k with h | h
          · exact absurd (.inr ⟨j, h, h1, h2, h3, h4⟩) hk
          · omega
        subst this
        rw [if_neg (fun h => h.elim h1 fun h => h h2), h3, h4]
        exact List.mem_append_right _ (List.mem_singleton.2 rfl)
theorem leF_fr {h1 h2 x1 x2 : Int} (hx1 : 0 < x1) (hx2 : 0 < x2) (h : h1 * x2 ≤ h2 * x1) : leF (frac h1 x1) (frac h2 x2) := by
  have e1 := frac_eq (n := h1) hx1
  have e2 := frac_eq (n := h2) hx2
  have d1 := (frac_den (n := h1) (M := x1) ⟨hx1, Int.le_refl _⟩).1
  have d2 := (frac_den (n := h2) (M := x2) ⟨hx2, Int.le_refl _⟩).1
  generalize frac h1 x1 = f1 at *
  generalize frac h2 x2 = f2 at *
  have m1 := Int.mul_le_mul_of_nonneg_right h (Int.le_of_lt (Int.mul_pos d1 d2))
  refine Int.le_of_mul_le_mul_right (a := x1 * x2) ?_ (Int.mul_pos hx1 hx2)
  have a1 : f1.1 * f2.2 * (x1 * x2) = h1 * x2 * (f1.2 * f2.2) := by
    have : f1.1 * f2.2 * (x1 * x2) = (f1.1 * x1) * (f2.2 * x2) := by grind
    rw [this, e1]; grind
  have a2 : f2.1 * f1.2 * (x1 * x2) = h2 * x1 * (f1.2 * f2.2) := by
    have : f2.1 * f1.2 * (x1 * x2) = (f2.1 * x2) * (f1.2 * x1) := by grind
    rw [this, e2]; grind
  omega
/-- The best price has the least bound. -/
theorem bpr_least {s : Si} {t : St8} {p : Int × Int} (hO : OnOk s t) (hr : s.res ≤ t.w) (hp : prOk p) : leF (bdF s t (bpr s t)) (bdF s t p) := by
  have hw : ∀ j : Nat, j < s.tk.length → 0 ≤ (tkA s j).w := fun j hj => by
    have := (hO.ok.t j hj).w
    have e : tkA s (j : Int) = s.tk.getD j tk0 := by simp only [tkA, Int.toNat_natCast]
    rw [e]; omega
  have hbo := bsF_ok (t := t) hO.ok s.tk.length (Nat.le_refl _)
  rcases hk_least s.tk.length 0 (t.w - s.res) p.1 p.2 hw hp.1.1 hp.2.1 with ⟨q1, q2, hq, h⟩ | ⟨h, _⟩
  · have hq2 := cnd_pos hq
    have hm := cdL_cnd hq
    have hfo := cdL_ok (t := t) hO.ok s.tk.length (Nat.le_refl _) _ hm
    refine leF_tr (frac_den hbo.2).1 (frac_den hfo.2).1 (frac_den hp.2).1 (minS_le hO.ok _ (cdL_ok hO.ok s.tk.length (Nat.le_refl _)) _ hm) ?_
    refine leF_fr hfo.2.1 hp.2.1 ?_
    rw [hk_bd, hk_bd]
    obtain ⟨e1, e2⟩ := frac_g (n := q1) hq2
    have hg := gcd_pos (n := q1) hq2
    generalize frac q1 q2 = f at *
    generalize gcdI q1 q2 = g at *
    subst e1; subst e2
    rw [hk_g (Int.le_of_lt hg)] at h
    refine Int.le_of_mul_le_mul_left (a := g) ?_ hg
    have a1 : ∀ x y z : Int, x * (y * z) = x * y * z := fun x y z => (Int.mul_assoc ..).symm
    have e3 : ∀ X : Int, X * (g * f.2) = g * (X * f.2) := fun X => by grind
    rw [a1]
    rw [e3] at h
    exact h
  · omega
/-- The tasks of a plan are accepted one by one, and permitted. -/
def acP (pm : Nat → Bool) (s : Si) : St8 → List Int → Prop
  | _, [] => True
  | t, n :: q => spE s t n = 0 ∧ pm n.toNat = true ∧ acP pm s (spS s t n) q
theorem acP_nn {pm : Nat → Bool} {s : Si} : ∀ {q : List Int} {t : St8}, OnOk s t → acP pm s t q → ∀ n ∈ q, (0 ≤ n ∧ n < s.tk.length) ∧ pm n.toNat = true
  | [], t, _, _, n, hn => by cases hn
  | m :: q, t, hO, h, n, hn => by
    obtain ⟨h1, h2, h3⟩ := h
    obtain ⟨⟨e, _, _, h4⟩, hO', _⟩ := spS_ok hO h1
    rcases List.mem_cons.1 hn with h | h
    · subst h; exact ⟨h4, h2⟩
    · rw [← e] at hO'; exact acP_nn hO' h3 n h
theorem acP_wk {pm pm' : Nat → Bool} {s : Si} (hp : ∀ k, pm k = true → pm' k = true) : ∀ {q : List Int} {t : St8}, acP pm s t q → acP pm' s t q
  | [], _, _ => trivial
  | _ :: _, _, ⟨h1, h2, h3⟩ => ⟨h1, hp _ h2, acP_wk hp h3⟩
theorem acP_len {pm : Nat → Bool} {s : Si} : ∀ {q : List Int} {t : St8}, OnOk s t → acP pm s t q → t.d.length + q.length ≤ s.tk.length
  | [], t, hO, _ => hO.dl
  | m :: q, t, hO, ⟨h1, h2, h3⟩ => by
    obtain ⟨⟨e, _, _, h4⟩, hO', hl⟩ := spS_ok hO h1
    rw [← e] at hO' hl
    have := acP_len hO' h3
    rw [List.length_cons]; omega
/-- The first plan of two. -/
def bfL : List Int → List Int → Bool
  | [], [] => false
  | [], _ :: _ => true
  | _ :: _, [] => false
  | a :: l, b :: m => if a = b then bfL l m else decide (a < b)
/-- What is found from a plan on: the first of the best ones, if it is better. -/
structure GpS (pm : Nat → Bool) (s : Si) (t : St8) (p : List Int) (b R : List Int × Int) (ok : List Int → Prop) : Prop where
  ge : b.2 ≤ R.2
  all : ∀ q, acP pm s t q → ok q → vaI s (p ++ q) ≤ R.2
  is : R = b ∨ ∃ q, acP pm s t q ∧ ok q ∧ R = (p ++ q, vaI s (p ++ q)) ∧ b.2 < R.2 ∧ ∀ q', acP pm s t q' → ok q' → vaI s (p ++ q') = R.2 → bfL q' q = false
theorem gp_spec {pm : Nat → Bool} {s : Si} : ∀ (f : Nat) (t : St8) (p : List Int) (b : List Int × Int), OnOk s t → s.tk.length ≤ t.d.length + f → GpS pm s t p b (gpF pm s f t p b) (fun _ => True)
  | f, t, p, b, hO, hf => by
    have hu : GpS pm s t p b (updP s p b) (fun q => q = []) := by
      rw [updP]
      split
      · refine ⟨by show b.2 ≤ vaI s p; omega, fun q _ hq => by subst hq; rw [List.append_nil]; exact Int.le_refl _, .inr ⟨[], trivial, rfl, by rw [List.append_nil], by assumption, fun q' _ h _ => by subst h; rfl⟩⟩
      · refine ⟨Int.le_refl _, fun q _ hq => by subst hq; rw [List.append_nil]; omega, .inl rfl⟩
    match f with
    | 0 =>
      rw [gpF]
      have hn : ∀ q, acP pm s t q → q = [] := fun q hq => by
        have := acP_len hO hq
        cases q with
        | nil => rfl
        | cons a q => rw [List.length_cons] at this; omega
      refine ⟨hu.ge, fun q hq _ => hu.all q hq (hn q hq), ?_⟩
      rcases hu.is with h | ⟨q, a, c, d, e, g⟩
      · exact .inl h
      · exact .inr ⟨q, a, trivial, d, e, fun q' a' _ => g q' a' (hn q' a')⟩
    | f + 1 =>
      rw [gpF]
      generalize updP s p b = u at *
      have key : ∀ k, k ≤ s.tk.length → GpS pm s t p u (gpK pm s f t p u k) (fun q => ∃ a l, q = a :: l ∧ a < k) := fun k => by
        induction k with
        | zero =>
          intro _
          rw [gpK]
          refine ⟨Int.le_refl _, fun q hq ⟨a, l, e, ha⟩ => ?_, .inl rfl⟩
          subst e
          have := (acP_nn hO hq a (List.mem_cons_self ..)).1
          omega
        | succ k ih =>
          intro hk
          have ih := ih (by omega)
          rw [gpK]
          have hno : ¬ (pm k = true ∧ spE s t k = 0) → GpS pm s t p u (gpK pm s f t p u k) (fun q => ∃ a l, q = a :: l ∧ a < ((k + 1 : Nat) : Int)) := fun hc => by
            have hlt : ∀ q, acP pm s t q → (∃ a l, q = a :: l ∧ a < ((k + 1 : Nat) : Int)) → ∃ a l, q = a :: l ∧ a < (k : Int) := fun q hq ⟨a, l, e, ha⟩ => by
              refine ⟨a, l, e, ?_⟩
              rcases Int.lt_or_le a k with h | h
              · exact h
              · have : a = k := by omega
                subst this; subst e
                exact absurd ⟨by have := hq.2.1; rwa [Int.toNat_natCast] at this, hq.1⟩ hc
            refine ⟨ih.ge, fun q hq ho => ih.all q hq (hlt q hq ho), ?_⟩
            rcases ih.is with h | ⟨q, a, ⟨a0, l0, e0, h0⟩, d, e, g⟩
            · exact .inl h
            · exact .inr ⟨q, a, ⟨a0, l0, e0, by omega⟩, d, e, fun q' a' o' => g q' a' (hlt q' a' o')⟩
          split
          · rename_i hc
            have hc' : pm k = true ∧ spE s t k = 0 := by
              first | exact hc | exact ⟨hc.2, hc.1⟩
            obtain ⟨⟨e, _, _, h4⟩, hO', hl⟩ := spS_ok hO hc'.2
            rw [← e] at hO' hl
            have sub := gp_spec (pm := pm) f (spS s t k) (p ++ [(k : Int)]) (gpK pm s f t p u k) hO' (by omega)
            generalize gpK pm s f t p u k = A at *
            generalize gpF pm s f (spS s t k) (p ++ [(k : Int)]) A = R at *
            have ea : ∀ q, p ++ [(k : Int)] ++ q = p ++ (k : Int) :: q := fun q => by simp
            have hcons : ∀ q, acP pm s t ((k : Int) :: q) → acP pm s (spS s t k) q := fun q h => h.2.2
            refine ⟨Int.le_trans ih.ge sub.ge, fun q hq ⟨a, l, e1, ha⟩ => ?_, ?_⟩
            · subst e1
              rcases Int.lt_or_le a k with h | h
              · exact Int.le_trans (ih.all _ hq ⟨a, l, rfl, h⟩) sub.ge
              · have : a = k := by omega
                subst this
                have := sub.all l hq.2.2 trivial
                rwa [ea] at this
            · rcases sub.is with h | ⟨q, a, _, d, e1, g⟩
              · rw [h]
                rcases ih.is with h1 | ⟨q, a, ⟨a0, l0, e0, h0⟩, d, e1, g⟩
                · exact .inl h1
                · refine .inr ⟨q, a, ⟨a0, l0, e0, by omega⟩, d, e1, fun q' a' ⟨a1, l1, e2, h2⟩ hv => ?_⟩
                  rcases Int.lt_or_le a1 k with h | h
                  · exact g q' a' ⟨a1, l1, e2, h⟩ hv
                  · subst e2; subst e0
                    rw [bfL, if_neg (by omega)]
                    exact decide_eq_false (by omega)
              · refine .inr ⟨(k : Int) :: q, ⟨hc'.2, by rw [Int.toNat_natCast]; exact hc'.1, a⟩, ⟨k, q, rfl, by omega⟩, by rw [← ea]; exact d, Int.lt_of_le_of_lt ih.ge e1, fun q' a' ⟨a1, l1, e2, h2⟩ hv => ?_⟩
                subst e2
                rcases Int.lt_or_le a1 k with h | h
                · have := ih.all _ a' ⟨a1, l1, rfl, h⟩
                  omega
                · have : a1 = k := by omega
                  subst this
                  rw [bfL, if_pos rfl]
                  exact g l1 a'.2.2 trivial (by rw [ea]; exact hv)
          · rename_i hc
            exact hno (by first | exact hc | exact fun h => hc ⟨h.2, h.1⟩)
      have kk := key s.tk.length (Nat.le_refl _)
      generalize gpK pm s f t p u s.tk.length = R at *
      have split : ∀ q, acP pm s t q → q = [] ∨ ∃ a l, q = a :: l ∧ a < (s.tk.length : Int) := fun q hq => by
        cases q with
        | nil => exact .inl rfl
        | cons a l => exact .inr ⟨a, l, rfl, (acP_nn hO hq a (List.mem_cons_self ..)).1.2⟩
      refine ⟨Int.le_trans hu.ge kk.ge, fun q hq _ => ?_, ?_⟩
      · rcases split q hq with h | h
        · exact Int.le_trans (hu.all q hq h) kk.ge
        · exact kk.all q hq h
      · rcases kk.is with h | ⟨q, a, o, d, e, g⟩
        · rw [h]
          rcases hu.is with h1 | ⟨q, a, o, d, e, g⟩
          · exact .inl h1
          · subst o
            refine .inr ⟨[], a, trivial, d, e, fun q' _ _ _ => ?_⟩
            cases q' <;> rfl
        · refine .inr ⟨q, a, trivial, d, Int.lt_of_le_of_lt hu.ge e, fun q' a' _ hv => ?_⟩
          rcases split q' a' with h | h
          · subst h
            have := hu.all [] trivial rfl
            omega
          · exact g q' a' h hv
end Go.Pw

set_option linter.unusedSimpArgs false
set_option linter.unusedVariables false
set_option maxHeartbeats 4000000
namespace Go.Pw
set_option maxRecDepth 2000
open Go Go.Proofs A1 A2 A3 A4
theorem vaP_cons {s : Si} {n : Int} {q : List Int} : ∀ k, vaP s (n :: q) (k + 1) = (tkA s n).v + vaP s q k
  | 0 => by rw [vaP, vaP, vaP]; show 0 + (tkA s n).v = _; omega
  | k + 1 => by rw [vaP, vaP_cons k, vaP, Int.add_assoc]; rfl
theorem vaI_cons {s : Si} {n : Int} {q : List Int} : vaI s (n :: q) = (tkA s n).v + vaI s q := by
  show vaP s (n :: q) (q.length + 1) = _
  rw [vaP_cons]
theorem reB_w {s : Si} {t : St8} (h : DvB s t) (hr : reB s t = true) : s.res ≤ t.w := by
  have h1 := (of_decide_eq_true hr).1
  have h2 := hmT_bd h
  have h3 := h.ok.e
  have := Int.mul_nonneg h2.1 (show 0 ≤ s.swim by omega)
  omega
theorem bdP_step {s : Si} {t u : St8} {p : Int × Int} {n : Nat} (hn : (n : Int) ∉ t.d) (hd : ∀ m, m ∈ u.d ↔ m = (n : Int) ∨ m ∈ t.d) : ∀ k, bdP s t p k = bdP s u p k + p.1 * (t.w - u.w) + (if n < k then max 0 ((tkA s n).v * p.2 - p.1 * (tkA s n).w) else 0)
  | 0 => by rw [bdP, bdP, if_neg (by omega)]; grind
  | k + 1 => by
    have ih := bdP_step (s := s) (p := p) hn hd k
    rw [bdP, bdP]
    by_cases hk : (k : Int) ∈ t.d
    · rw [if_pos hk, if_pos ((hd _).2 (.inr hk)), ih]
      have : k ≠ n := by intro e; subst e; exact hn hk
      by_cases h1 : n < k
      · rw [if_pos h1, if_pos (by omega)]
      · rw [if_neg h1, if_neg (by omega)]
    · by_cases h1 : k = n
      · subst h1
        rw [if_neg hk, if_pos ((hd _).2 (.inl rfl)), ih, if_neg (by omega), if_pos (by omega)]
        omega
      · rw [if_neg hk, if_neg (fun h => ((hd _).1 h).elim (fun h => h1 (by omega)) hk), ih]
        by_cases h2 : n < k
        · rw [if_pos h2, if_pos (by omega)]; omega
        · rw [if_neg h2, if_neg (by omega)]; omega
theorem bdP_nn {s : Si} {t : St8} {p : Int × Int} (hp : prOk p) (hr : s.res ≤ t.w) : ∀ k, 0 ≤ bdP s t p k
  | 0 => by rw [bdP]; exact Int.mul_nonneg hp.1.1 (by omega)
  | k + 1 => by
    have := bdP_nn (k := k) hp hr
    rw [bdP]; split
    · exact this
    · have := Int.le_max_left 0 ((tkA s k).v * p.2 - p.1 * (tkA s k).w)
      omega
/-- No plan is worth more than the bound. -/
theorem plan_bd {pm : Nat → Bool} {s : Si} {p : Int × Int} (hp : prOk p) : ∀ (q : List Int) (t : St8), OnOk s t → s.res ≤ t.w → acP pm s t q → p.2 * vaI s q ≤ bdP s t p s.tk.length
  | [], t, _, hr, _ => by
    have := bdP_nn (t := t) hp hr s.tk.length
    show p.2 * 0 ≤ _
    omega
  | n :: q, t, hO, hr, ⟨h1, h2, h3⟩ => by
    obtain ⟨⟨e, he, hs, h4⟩, hO', hl⟩ := spS_ok hO h1
    obtain ⟨⟨_, hre⟩, _, _, _, _, hx, hmem⟩ := nx_facts hO h1
    rw [e] at hre hmem
    have hw := reB_w hO'.b hre
    have hT := trT_bd (p := (tkA s n).p) hO
    have hee := hO.ok.e
    have wle : (nxS s t n).w ≤ t.w - (tkA s n).w := by
      have m1 := Int.mul_nonneg hT.1 (show 0 ≤ s.swim by omega)
      have m2 := Int.mul_nonneg (show 0 ≤ max (t.t + trT s t (tkA s n).p) (tkA s n).lo - (t.t + trT s t (tkA s n).p) by omega) (show 0 ≤ s.idle by omega)
      show t.w - (trT s t (tkA s n).p * s.swim + (max (t.t + trT s t (tkA s n).p) (tkA s n).lo - (t.t + trT s t (tkA s n).p)) * s.idle + (tkA s n).w) ≤ _
      omega
    rw [e] at h3
    have ih := plan_bd hp q _ hO' hw h3
    obtain ⟨k, rfl⟩ := Int.eq_ofNat_of_zero_le h4.1
    have st := bdP_step (s := s) (p := p) (u := nxS s t k) (t := t) hx hmem s.tk.length
    rw [if_pos (by omega)] at st
    rw [vaI_cons, Int.mul_add]
    have m3 := Int.mul_le_mul_of_nonneg_left wle hp.1.1
    have m4 := Int.le_max_right 0 ((tkA s k).v * p.2 - p.1 * (tkA s k).w)
    have c1 : (tkA s k).v * p.2 = p.2 * (tkA s k).v := Int.mul_comm ..
    rw [Int.mul_sub] at m3
    rw [Int.mul_sub] at st
    omega
theorem plan_le {pm : Nat → Bool} {s : Si} {t : St8} {p : Int × Int} {q : List Int} (hp : prOk p) (hO : OnOk s t) (hr : s.res ≤ t.w) (h : acP pm s t q) : ¬ cmpF (bdF s t p) (vaI s q, 1) < 0 := by
  have h1 := plan_bd hp q t hO hr h
  have e := frac_eq (n := bdP s t p s.tk.length) hp.2.1
  have hd := (frac_den (n := bdP s t p s.tk.length) (M := p.2) ⟨hp.2.1, Int.le_refl _⟩).1
  have : vaI s q * (bdF s t p).2 ≤ (bdF s t p).1 := by
    refine Int.le_of_mul_le_mul_right (a := p.2) ?_ hp.2.1
    show vaI s q * (frac (bdP s t p s.tk.length) p.2).2 * p.2 ≤ (frac (bdP s t p s.tk.length) p.2).1 * p.2
    rw [e]
    have m := Int.mul_le_mul_of_nonneg_right h1 (Int.le_of_lt hd)
    have e2 : vaI s q * (frac (bdP s t p s.tk.length) p.2).2 * p.2 = p.2 * vaI s q * (frac (bdP s t p s.tk.length) p.2).2 := by grind
    rw [e2]; exact m
  rw [cmpF, cmpI]
  show ¬ (if (bdF s t p).1 * 1 < vaI s q * (bdF s t p).2 then (-1 : Int) else _) < 0
  rw [if_neg (by omega)]
  split <;> omega
theorem acP_pr {s : Si} : ∀ {q : List Int} {t : St8}, acP (fun _ => true) s t q ↔ (prE s t q).2 = 0
  | [], t => ⟨fun _ => rfl, fun _ => trivial⟩
  | n :: q, t => by
    have hst : ∀ i, stK s t (n :: q) (i + 1) = stK s (spS s t n) q i := fun i => by
      induction i with
      | zero => rfl
      | succ i ih => rw [stK, ih, stK]; rfl
    rw [acP, acP_pr, prE, prE, eachN_ok, eachN_ok]
    constructor
    · rintro ⟨h1, _, h3⟩ i hi
      match i with
      | 0 => exact h1
      | i + 1 => rw [sfK, hst]; exact h3 i (by rw [List.length_cons] at hi; omega)
    · intro h
      refine ⟨h 0 (by rw [List.length_cons]; omega), rfl, fun i hi => ?_⟩
      have := h (i + 1) (by rw [List.length_cons]; omega)
      rw [sfK, hst] at this; exact this
/-- What the best plan is. -/
theorem best_is {pm : Nat → Bool} {s : Si} {t : St8} (hO : OnOk s t) : acP pm s t (bestPp pm s t).1 ∧ vaI s (bestPp pm s t).1 = (bestPp pm s t).2 ∧ (∀ q, acP pm s t q → vaI s q ≤ (bestPp pm s t).2) ∧ ∀ q, acP pm s t q → vaI s q = (bestPp pm s t).2 → bfL q (bestPp pm s t).1 = false := by
  have h := gp_spec (pm := pm) (s.tk.length + 1) t [] ([], 0) hO (by omega)
  change GpS pm s t [] ([], 0) (bestPp pm s t) _ at h
  generalize bestPp pm s t = R at *
  have ha := h.all
  rcases h.is with e | ⟨q, a, _, d, e, g⟩
  · subst e
    exact ⟨trivial, rfl, fun q hq => ha q hq trivial, fun q _ _ => by cases q <;> rfl⟩
  · simp only [List.nil_append] at d g
    subst d
    exact ⟨a, rfl, fun q hq => ha q hq trivial, fun q hq hv => g q hq trivial hv⟩
theorem bfL_cmp : ∀ {l m : List Int}, bfL l m = decide (cmpL l m < 0)
  | [], [] => rfl
  | [], _ :: _ => rfl
  | _ :: _, [] => rfl
  | a :: l, b :: m => by
    rw [bfL, cmpL, bfL_cmp (l := l) (m := m)]
    by_cases h : a = b
    · have e : cmpI a b = 0 := by rw [cmpI, if_neg (by omega), if_neg (by omega)]
      rw [e, if_pos h, if_pos rfl]
    · rw [if_neg h]
      by_cases h1 : a < b
      · have e : cmpI a b = -1 := by rw [cmpI, if_pos h1]
        rw [e, if_neg (by decide), decide_eq_true h1]; rfl
      · have e : cmpI a b = 1 := by rw [cmpI, if_neg h1, if_pos (by omega)]
        rw [e, if_neg (by decide), decide_eq_false h1]; rfl
theorem dpB_tr {s : Si} {n : Int} {m : Int} (hO : SiOk s) (hm : 0 ≤ m) (h : dpB s n m.toNat = true) : ∀ i : Nat, i < s.tk.length → dpB s m i = true → dpB s n i = true := fun i => by
  induction i using Nat.strongRecOn with
  | ind i ih =>
    intro hi hb
    rw [dpB_eq hO hi, List.any_eq_true] at hb
    rw [dpB_eq hO hi, List.any_eq_true]
    obtain ⟨x, hx, h1⟩ := hb
    refine ⟨x, hx, ?_⟩
    obtain ⟨s1, s2⟩ := Srt.of (hO.t i hi).a
    obtain ⟨j, hj, e⟩ := List.getElem_of_mem hx
    have h2 := s2 j hj
    rw [List.getD_eq_getElem?_getD, List.getElem?_eq_getElem hj, Option.getD_some, e] at h2
    rw [Bool.or_eq_true] at h1 ⊢
    right
    rcases h1 with h1 | h1
    · have := of_decide_eq_true h1
      subst this; exact h
    · exact ih x.toNat (by omega) (by omega) h1
end Go.Pw

set_option linter.unusedSimpArgs false
set_option linter.unusedVariables false
set_option maxHeartbeats 4000000
namespace Go.Pw
set_option maxRecDepth 2000
open Go Go.Proofs A1 A2 A3 A4
theorem cmpI_lt0 {a b : Int} : cmpI a b < 0 ↔ a < b := by rw [cmpI]; split <;> (try split) <;> omega
theorem cmpI_z0 {a b : Int} : cmpI a b = 0 ↔ a = b := by rw [cmpI]; split <;> (try split) <;> omega
theorem C46 {l m : List Int} : (l.length ≤ 1000000 ∧ m.length ≤ 1000000) → PFD Tryz.prog 46 [.c (ints l), .c (ints m)] (vbl (decide (cmpL l m < 0))) := fun ⟨hl, hm⟩ => by
  refine pi1 fn46 ?_
  (repeat' first | (refine Owe.same ?_; first | refine Owe.o ?_ | refine Owe.mk ?_ ?_) | (refine Fork.same ?_; (first | refine fkD ?_ ?_ | refine fkN ?_ ?_ | refine fkM ?_ ?_) <;> intro h) | refine MvQ.stay ?_)
  refine Sat.lp0 (fun k : Nat => [(5, vi .i64 k), (0, .c (ints l)), (1, .c (ints m))]) (fun k => (k ≤ l.length ∧ k ≤ m.length) ∧ cmpL l m = cmpL (l.drop k) (m.drop k)) (fun k => l.length - k) 0 ⟨⟨Nat.zero_le _, Nat.zero_le _⟩, rfl⟩ (by ((first | refine qen ?_ | refine qvs ?_ | refine qeq ?_ | refine qst ?_ | refine qv ?_ | refine qc ?_ | refine qe ?_ | refine qcs ?_ | skip); (repeat' first | exact rfl | (refine qS ?_; constructor)))) ?_
  intro k hk
  have hend : k = l.length ∨ k = m.length → (cmpL l m < 0 ↔ l.length < m.length) := fun h => by
    rw [hk.2]
    rcases Nat.lt_or_ge k m.length with h1 | h1
    · have hkl : k = l.length := by omega
      rw [List.drop_of_length_le (l := l) (by omega), List.drop_eq_getElem_cons h1, cmpL]
      exact ⟨fun _ => by omega, fun _ => by decide⟩
    · rw [List.drop_of_length_le (l := m) (by omega)]
      rcases Nat.lt_or_ge k l.length with h2 | h2
      · rw [List.drop_eq_getElem_cons h2, cmpL]
        exact ⟨fun hh => absurd hh (by decide), fun _ => by omega⟩
      · rw [List.drop_of_length_le (l := l) (by omega), cmpL]
        exact ⟨fun hh => absurd hh (by decide), fun _ => by omega⟩
  have hin : k < l.length → k < m.length → cmpL l m = if cmpI (l.getD k 0) (m.getD k 0) = 0 then cmpL (l.drop (k + 1)) (m.drop (k + 1)) else cmpI (l.getD k 0) (m.getD k 0) := fun h1 h2 => by rw [hk.2, cmpL_drop h1 h2]
  (repeat' first | (refine Owe.same ?_; first | refine Owe.o ?_ | refine Owe.mk ?_ ?_) | (refine Fork.same ?_; (first | refine fkD ?_ ?_ | refine fkN ?_ ?_ | refine fkM ?_ ?_) <;> intro h) | refine MvQ.stay ?_)
  · simp only [Int.toNat_natCast] at h
    have e := hin (by omega) (by omega)
    rw [if_neg fun hh => h (cmpI_z0.1 hh)] at e
    rw [e]
    (refine rqK rfl ?_; (repeat' first | exact rfl | (refine qS ?_; constructor)))
    rw [decide_eq_decide]; exact cmpI_lt0.symm
  · simp only [Int.toNat_natCast] at h
    have e := hin (by omega) (by omega)
    rw [if_pos (cmpI_z0.2 h)] at e
    exact again0 (k + 1) ⟨by omega, e⟩ (by omega) (by ((first | refine qen ?_ | refine qvs ?_ | refine qeq ?_ | refine qst ?_ | refine qv ?_ | refine qc ?_ | refine qe ?_ | refine qcs ?_ | skip); (repeat' first | exact rfl | (refine qS ?_; constructor))))
  · have e := hend (by omega)
    (refine rqK rfl ?_; (repeat' first | exact rfl | (refine qS ?_; constructor)))
    rw [decide_eq_decide, e]; omega
  · have e := hend (by omega)
    (refine rqK rfl ?_; (repeat' first | exact rfl | (refine qS ?_; constructor)))
    rw [decide_eq_decide, e]; omega
theorem C46b {l m : List Int} : (l.length ≤ 1000000 ∧ m.length ≤ 1000000) → PFD Tryz.prog 46 [.c (ints l), .c (ints m)] (vbl (bfL l m)) := fun h => by
  rw [bfL_cmp]; exact C46 h
theorem C47 {n b : Int} : (w64 n ∧ 0 < b ∧ Md b) → PFD Tryz.prog 47 [vi .i64 n, vi .i64 b] (vi .i64 (n % b)) := fun ⟨hn, hb, hb'⟩ => by
  have h5 := tmod_bd (n := n) hb
  refine pi1 fn47 ?_
  (repeat' first | (refine Owe.same ?_; first | refine Owe.o ?_ | refine Owe.mk ?_ ?_) | (refine Fork.same ?_; (first | refine fkD ?_ ?_ | refine fkN ?_ ?_ | refine fkM ?_ ?_) <;> intro h) | refine MvQ.stay ?_)
  · (refine rqK rfl ?_; (repeat' first | exact rfl | (refine qS ?_; constructor))); rw [← mod_eq hb, if_pos h]
  · (refine rqK rfl ?_; (repeat' first | exact rfl | (refine qS ?_; constructor))); rw [← mod_eq hb, if_neg h]
/-- What is known of the dependents of a task and of the best plan without them. -/
structure DpF (s : Si) (m : Int) (p : List Int) (D : List Int) : Prop where
  lo : ∀ k, k < D.length → m < D.getD k 0 ∧ D.getD k 0 < s.tk.length
  no : ∀ k, k < D.length → D.getD k 0 ∉ p
  e : ∀ k, k < D.length → deE s (D.getD k 0) = 0
  tr : ∀ k, k < D.length → ∀ x ∈ depL s (D.getD k 0) s.tk.length, x ∈ D
  me : m ∉ p
theorem dep_is {s : Si} {m : Int} {k : Nat} (hk : k < (depL s m s.tk.length).length) : ∃ i : Nat, (depL s m s.tk.length).getD k 0 = i ∧ i < s.tk.length ∧ dpB s m i = true := by
  have h : (depL s m s.tk.length).getD k 0 ∈ depL s m s.tk.length := getD_mem _ hk
  obtain ⟨i, _, e⟩ := List.mem_map.1 h
  rw [← e] at h ⊢
  exact ⟨i, rfl, fltL_mem.1 h⟩
theorem DpF.of {s : Si} {t : St8} {m : Int} (hO : OnOk s t) (h0 : (siE s).2 = 0) (hm : 0 ≤ m ∧ m < s.tk.length) : DpF s m (bestPp (pmD s m) s t).1 (depL s m s.tk.length) := by
  have hb := (best_is (pm := pmD s m) hO).1
  have hp : ∀ n ∈ (bestPp (pmD s m) s t).1, (0 ≤ n ∧ n < s.tk.length) ∧ n ≠ m ∧ dpB s m n.toNat = false := fun n hn => by
    obtain ⟨h1, h2⟩ := acP_nn hO hb n hn
    rw [pmD, Bool.and_eq_true, Bool.not_eq_true', Bool.not_eq_true', decide_eq_false_iff_not] at h2
    exact ⟨h1, by omega, h2.2⟩
  refine ⟨fun k hk => ?_, fun k hk hn => ?_, fun k hk => ?_, fun k hk x hx => ?_, fun h => (hp m h).2.1 rfl⟩
  · obtain ⟨i, e, h1, h2⟩ := dep_is hk
    rw [e]
    refine ⟨?_, by omega⟩
    rcases Int.lt_or_le m i with h | h
    · exact h
    · rw [dpB_lo hO.ok i h1 h] at h2; cases h2
  · obtain ⟨i, e, h1, h2⟩ := dep_is hk
    rw [e] at hn
    have := (hp _ hn).2.2
    rw [Int.toNat_natCast, h2] at this; cases this
  · obtain ⟨i, e, h1, h2⟩ := dep_is hk
    rw [e, deE, h0]
    have : isTk s i = true := by
      simp only [isTk, wi, decide_eq_true_eq]; omega
    rw [this]; rfl
  · obtain ⟨i, e, h1, h2⟩ := dep_is hk
    rw [e] at hx
    obtain ⟨j, _, ej⟩ := List.mem_map.1 hx
    subst ej
    obtain ⟨h3, h4⟩ := fltL_mem.1 hx
    exact fltL_mem.2 ⟨h3, dpB_tr (m := i) hO.ok (by omega) (by rw [Int.toNat_natCast]; exact h2) j h3 h4⟩
end Go.Pw
