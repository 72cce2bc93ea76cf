/- Proved here at the end: the row named in the last theorem, on no condition. -/
import Derived.Test.YtnimcgmgnmlfgaaGreatDivePlansD
import Derived.Test.YtnimcgmgnmlfgaaGreatProg
import Derived.Test.YtnimcgmgnmlfgaaGreatRows
set_option linter.unusedSimpArgs false
set_option linter.unusedVariables false
set_option maxHeartbeats 4000000
namespace Go.Pw
set_option maxRecDepth 2000
open Go Go.Proofs A1 A2 A3 A4
theorem C98e : PFD Tryz.prog 98 [.c (.d (.sl 1 2 fun i => [[intsD []], [intsD []]].getD i []))] (.c (ints [])) := by
  refine pi1 fn98 ?_
  (repeat' first | (refine Owe.same ?_; first | refine Owe.o ?_ | refine Owe.mk ?_ ?_) | (refine Fork.same ?_; (first | refine fkD ?_ ?_ | refine fkN ?_ ?_ | refine fkM ?_ ?_) <;> intro h) | refine MvQ.stay ?_)
  refine Sat.lp0 (fun k : Nat => [(11, vi .i64 k), (10, vi .i64 2), (9, .c (.d (.sl 1 2 fun i => [[intsD []], [intsD []]].getD i []))), (0, .c (.d (.sl 1 2 fun i => [[intsD []], [intsD []]].getD i []))), (3, vi .i64 0)]) (fun k => k ≤ 2) (fun k => 2 - k) 0 (by decide) (by ((first | refine qen ?_ | refine qvs ?_ | refine qeq ?_ | refine qst ?_ | refine qv ?_ | refine qc ?_ | refine qe ?_ | refine qcs ?_ | skip); (repeat' first | exact rfl | (refine qS ?_; constructor)))) ?_
  intro k hk
  match k, hk with
  | 0, _ =>
    (repeat' first | (refine Owe.same ?_; first | refine Owe.o ?_ | refine Owe.mk ?_ ?_) | (refine Fork.same ?_; (first | refine fkY ?_ | refine fkF ?_ | ((first | refine fkD ?_ ?_ | refine fkN ?_ ?_ | refine fkM ?_ ?_) <;> intro h))) | ((first | refine OpsL.same ?_ | refine OpsDL.same ?_); first | refine oK C61 rfl rfl rfl ?_) | refine MvQ.stay ?_)
    refine again0 1 (by decide) (by decide) ?_
    ((first | refine qen ?_ | refine qvs ?_ | refine qeq ?_ | refine qst ?_ | refine qv ?_ | refine qc ?_ | refine qe ?_ | refine qcs ?_ | skip); (repeat' first | exact rfl | (refine qS ?_; constructor)))
  | 1, _ =>
    (repeat' first | (refine Owe.same ?_; first | refine Owe.o ?_ | refine Owe.mk ?_ ?_) | (refine Fork.same ?_; (first | refine fkY ?_ | refine fkF ?_ | ((first | refine fkD ?_ ?_ | refine fkN ?_ ?_ | refine fkM ?_ ?_) <;> intro h))) | ((first | refine OpsL.same ?_ | refine OpsDL.same ?_); first | refine oK C61 rfl rfl rfl ?_) | refine MvQ.stay ?_)
    refine again0 2 (by decide) (by decide) ?_
    ((first | refine qen ?_ | refine qvs ?_ | refine qeq ?_ | refine qst ?_ | refine qv ?_ | refine qc ?_ | refine qe ?_ | refine qcs ?_ | skip); (repeat' first | exact rfl | (refine qS ?_; constructor)))
  | 2, _ =>
    (repeat' first | (refine Owe.same ?_; first | refine Owe.o ?_ | refine Owe.mk ?_ ?_) | (refine Fork.same ?_; (first | refine fkY ?_ | refine fkF ?_ | ((first | refine fkD ?_ ?_ | refine fkN ?_ ?_ | refine fkM ?_ ?_) <;> intro h))) | ((first | refine OpsL.same ?_ | refine OpsDL.same ?_); first | refine oK C61 rfl rfl rfl ?_) | refine MvQ.stay ?_)
    refine Ops.cs rfl rfl (CallS.of fn121 rfl ?_)
    (repeat' first | (refine Owe.same ?_; first | refine Owe.o ?_ | refine Owe.mk ?_ ?_) | (refine Fork.same ?_; (first | refine fkY ?_ | refine fkF ?_ | ((first | refine fkD ?_ ?_ | refine fkN ?_ ?_ | refine fkM ?_ ?_) <;> intro h))) | ((first | refine OpsL.same ?_ | refine OpsDL.same ?_); first | refine oK C61 rfl rfl rfl ?_) | refine MvQ.stay ?_)
    (repeat' first | (refine Owe.same ?_; first | refine Owe.o ?_ | refine Owe.mk ?_ ?_) | (refine Fork.same ?_; (first | refine fkD ?_ ?_ | refine fkN ?_ ?_ | refine fkM ?_ ?_) <;> intro h) | refine MvQ.stay ?_)
    refine Sat.nilS 6 3 1 (fun i => r1 (([] : List Int).getD i 0)) rfl ?_
    refine Sat.lp (fun k : Nat => ⟨[(27, vi .i64 k), (26, vi .i64 2), (25, .c (.d (.sl 1 2 fun i => [[intsD []], [intsD []]].getD i []))), (6, .c (.ms 0 0))], [(0, rowv 3 1 r1 0 ([] : List Int))], 1⟩) (fun k : Nat => k ≤ 2) (fun k => 2 - k) 0 [0] (by decide) ?_ ?_
    · (refine qis ?_ ?_ <;> (repeat' first | exact rfl | (refine qS ?_; constructor)))
    · intro k hk
      match k, hk with
      | 0, _ =>
        (repeat' first | (refine Owe.same ?_; first | refine Owe.o ?_ | refine Owe.mk ?_ ?_) | (refine Fork.same ?_; (first | refine fkY ?_ | refine fkF ?_ | ((first | refine fkD ?_ ?_ | refine fkN ?_ ?_ | refine fkM ?_ ?_) <;> intro h))) | ((first | refine OpsL.same ?_ | refine OpsDL.same ?_); first | refine oK C61 rfl rfl rfl ?_) | refine MvQ.stay ?_)
        refine again 1 [1] (by decide) (by decide) ?_
        (refine qis ?_ ?_ <;> (repeat' first | exact rfl | (refine qS ?_; constructor)))
      | 1, _ =>
        (repeat' first | (refine Owe.same ?_; first | refine Owe.o ?_ | refine Owe.mk ?_ ?_) | (refine Fork.same ?_; (first | refine fkY ?_ | refine fkF ?_ | ((first | refine fkD ?_ ?_ | refine fkN ?_ ?_ | refine fkM ?_ ?_) <;> intro h))) | ((first | refine OpsL.same ?_ | refine OpsDL.same ?_); first | refine oK C61 rfl rfl rfl ?_) | refine MvQ.stay ?_)
        refine again 2 [1] (by decide) (by decide) ?_
        (refine qis ?_ ?_ <;> (repeat' first | exact rfl | (refine qS ?_; constructor)))
      | 2, _ =>
        (repeat' first | (refine Owe.same ?_; first | refine Owe.o ?_ | refine Owe.mk ?_ ?_) | (refine Fork.same ?_; (first | refine fkY ?_ | refine fkF ?_ | ((first | refine fkD ?_ ?_ | refine fkN ?_ ?_ | refine fkM ?_ ?_) <;> intro h))) | ((first | refine OpsL.same ?_ | refine OpsDL.same ?_); first | refine oK C61 rfl rfl rfl ?_) | refine MvQ.stay ?_)
        refine rqF 0 _ rfl rfl rfl ?_; (repeat' first | exact rfl | (refine qS ?_; constructor))
theorem C98 {a b : List Int} : (a.length ≤ 1000 ∧ b.length ≤ 1000) → PFD Tryz.prog 98 [.c (.d (.sl 1 2 fun i => [[intsD a], [intsD b]].getD i []))] (.c (ints (a ++ b))) := fun ⟨ha, hb⟩ => by
  by_cases h0 : 0 < (a.length : Int) + b.length
  · exact C98a ⟨ha, hb, h0⟩
  · obtain rfl : a = [] := List.eq_nil_of_length_eq_zero (by omega)
    obtain rfl : b = [] := List.eq_nil_of_length_eq_zero (by omega)
    exact C98e
/-- A list without its k-th number. -/
abbrev wo (l : List Int) (k : Nat) : List Int := l.take k ++ l.drop (k + 1)
theorem wo_len {l : List Int} {k : Nat} (h : k < l.length) : (wo l k).length + 1 = l.length := by simp [wo]; omega
theorem wo_mem {l : List Int} {k : Nat} {x : Int} (h : x ∈ wo l k) : x ∈ l := by
  rcases List.mem_append.1 h with h | h
  · exact List.mem_of_mem_take h
  · exact List.mem_of_mem_drop h
theorem wo_nd {l : List Int} {k : Nat} (h : l.Nodup) : (wo l k).Nodup := by
  have : (wo l k).Sublist l := by
    have h1 : (l.take k ++ l.drop (k + 1)).Sublist (l.take k ++ l.drop k) := (List.Sublist.refl _).append (List.drop_sublist_drop_left l (Nat.le_succ k))
    rwa [List.take_append_drop] at h1
  exact this.nodup h
theorem wo_not {l : List Int} {k : Nat} (h : l.Nodup) (hk : k < l.length) : l.getD k 0 ∉ wo l k := by
  have e : l = l.take k ++ l.getD k 0 :: l.drop (k + 1) := by
    rw [List.getD_eq_getElem?_getD, List.getElem?_eq_getElem hk]
    show l = l.take k ++ l[k] :: l.drop (k + 1)
    rw [← List.drop_eq_getElem_cons hk, List.take_append_drop]
  intro hm
  rw [e] at h
  have h2 := List.nodup_append.1 h
  rcases List.mem_append.1 hm with h1 | h1
  · exact h2.2.2 _ h1 _ (List.mem_cons_self ..) rfl
  · exact (List.nodup_cons.1 h2.2.1).1 h1
theorem C98w {l : List Int} {k : Nat} {f g : Nat → List D} (hf : ∀ i, i < k → f i = r1 (l.getD i 0)) (hg : ∀ i, k + 1 + i < l.length → g i = r1 (l.getD (k + 1 + i) 0)) {n m : Nat} (hn : n = k) (hm : m = l.length - (k + 1)) : (k < l.length ∧ l.length ≤ 1000) → PFD Tryz.prog 98 [.c (.d (.sl 1 2 fun i => [[.sl 1 n f], [.sl 1 m g]].getD i []))] (.c (ints (wo l k))) := fun ⟨hk, hl⟩ => by
  subst hn
  subst hm
  have c := C98 (a := l.take n) (b := l.drop (n + 1)) ⟨by rw [List.length_take]; omega, by rw [List.length_drop]; omega⟩
  refine PFD.ri c (.cons (RI.cI (DI.sl fun i hi => ?_)) .nil)
  match i, hi with
  | 0, _ =>
    refine .cons ?_ .nil
    have e : (l.take n).length = n := by rw [List.length_take]; omega
    show DI _ (.sl 1 (l.take n).length _)
    rw [e]
    refine DI.sl fun i hi => ?_
    have e2 : (l.take n).getD i 0 = l.getD i 0 := by simp only [List.getD_eq_getElem?_getD, List.getElem?_take, hi, if_true]
    rw [hf i hi, e2]
    exact DIs.refl _
  | 1, _ =>
    refine .cons ?_ .nil
    show DI _ (.sl 1 (l.drop (n + 1)).length _)
    rw [List.length_drop]
    refine DI.sl fun i hi => ?_
    have e2 : (l.drop (n + 1)).getD i 0 = l.getD (n + 1 + i) 0 := by simp only [List.getD_eq_getElem?_getD, List.getElem?_drop]
    rw [hg i (by omega), e2]
    exact DIs.refl _
theorem insI_mem {l : List Int} {i : Nat} {x y : Int} : y ∈ insI l i x ↔ y = x ∨ y ∈ l := by
  rw [insI, List.mem_append, List.mem_cons]
  conv => rhs; rw [← List.take_append_drop i l, List.mem_append]
  constructor
  · rintro (h | h | h)
    · exact .inr (.inl h)
    · exact .inl h
    · exact .inr (.inr h)
  · rintro (h | h | h)
    · exact .inr (.inl h)
    · exact .inl h
    · exact .inr (.inr h)
theorem nxS_ok {s : Si} {t : St8} {n : Int} (h : OnOk s t) (hn : 0 ≤ n ∧ n < s.tk.length) (hx : n ∉ t.d) (he : nxE s t n = 0) : OnOk s (nxS s t n) ∧ (nxS s t n).d.length = t.d.length + 1 ∧ ∀ m, m ∈ (nxS s t n).d ↔ m = n ∨ m ∈ t.d := by
  rw [nxE, nxF, fst3, unl0 (by decide), unl0 (by decide), unb_ok (by decide)] at he
  obtain ⟨a1, a2, a3⟩ := he
  have hB := (h.ok.t n.toNat (by omega)).b
  have hsw := trT_bd (p := (tkA s n).p) h
  have hD := nxT_b (n := n) h hB hsw
  have hm := hmT_bd hD
  have hr := of_decide_eq_true a3
  have h2 := h.tm
  have h3 := h.en
  have h4 := h.ok.e
  have h5 := h.oil
  have m1 : 0 ≤ hmT s (nxS s t n) * s.swim := Int.mul_nonneg hm.1 (by omega)
  obtain ⟨b5, b6, b7, b8, b9, b10⟩ := hB
  have m2 : 0 ≤ trT s t (tkA s n).p * s.swim := Int.mul_nonneg hsw.1 (by omega)
  have m3 : 0 ≤ (max (t.t + trT s t (tkA s n).p) (tkA s n).lo - (t.t + trT s t (tkA s n).p)) * s.idle := Int.mul_nonneg (by omega) (by omega)
  have hle := bsI_le n t.d
  obtain ⟨s1, s2⟩ := Srt.of h.d
  refine ⟨⟨h.ok, hD.pl, ?_, ?_, ?_, ?_⟩, insI_len hle, fun m => insI_mem⟩
  · have : (nxS s t n).t = max (t.t + trT s t (tkA s n).p) (tkA s n).lo + (tkA s n).d := rfl
    have key : (nxS s t n).t + hmT s (nxS s t n) ≤ s.fin := hr.2
    have hm0 : 0 ≤ hmT s (nxS s t n) := hm.1
    generalize hmT s (nxS s t n) = H at key hm0
    rw [this] at key ⊢
    clear hr hm hD a3 a2
    simp only [tkA] at *
    omega
  · have : (nxS s t n).w = t.w - (trT s t (tkA s n).p * s.swim + (max (t.t + trT s t (tkA s n).p) (tkA s n).lo - (t.t + trT s t (tkA s n).p)) * s.idle + (tkA s n).w) := rfl
    have key : s.res ≤ (nxS s t n).w - hmT s (nxS s t n) * s.swim := hr.1
    generalize hmT s (nxS s t n) * s.swim = H at key m1
    rw [this] at key ⊢
    clear hr hm hD a3 a2
    simp only [tkA] at *
    omega
  · have : (nxS s t n).o = t.o - (tkA s n).o := rfl
    have key : 0 ≤ (nxS s t n).o := a2
    rw [this] at key ⊢
    clear hr hm hD a3 a2
    simp only [tkA] at *
    omega
  · exact (insI_srt s1 hx).to (insI_bd hle s2 (by omega))
end Go.Pw

set_option linter.unusedSimpArgs false
set_option linter.unusedVariables false
set_option maxHeartbeats 4000000
namespace Go.Pw
set_option maxRecDepth 2000
open Go Go.Proofs A1 A2 A3 A4
/-- The task at an index of a set can be next: it waits for none of the others, and its step succeeds. -/
abbrev nowB (s : Si) (t : St8) (l : List Int) (k : Nat) : Bool := !((tkA s (l.getD k 0)).a.any fun m => decide (m ∈ wo l k)) && decide (nxE s t (l.getD k 0) = 0)
def togB (s : Si) : Nat → St8 → List Int → Bool
  | 0, _, l => decide (l = [])
  | f + 1, t, l => decide (l = []) || anyN (fun k => nowB s t l k && togB s f (nxS s t (l.getD k 0)) (wo l k)) l.length
/-- Numbers of tasks that are not done. -/
structure SetOk (s : Si) (t : St8) (l : List Int) : Prop where
  n : tkNs s l
  u : l.Nodup
  d : ∀ x ∈ l, x ∉ t.d
theorem SetOk.wo {s : Si} {t : St8} {l : List Int} {k : Nat} (h : SetOk s t l) (hk : k < l.length) (hd : ∀ m, m ∈ (nxS s t (l.getD k 0)).d ↔ m = l.getD k 0 ∨ m ∈ t.d) : SetOk s (nxS s t (l.getD k 0)) (wo l k) where
  n := fun i hi => by
    have hm := wo_mem (getD_mem 0 hi)
    obtain ⟨j, hj, e⟩ := List.getElem_of_mem hm
    have := h.n j hj
    rw [List.getD_eq_getElem?_getD, List.getElem?_eq_getElem hj] at this
    rw [← e]; exact this
  u := wo_nd h.u
  d := fun x hx => by
    rw [hd]
    rintro (e | e)
    · subst e; exact wo_not h.u hk hx
    · exact h.d x (wo_mem hx) e
theorem SetOk.len {s : Si} {t : St8} {l : List Int} (h : SetOk s t l) : l.length ≤ s.tk.length := by
  have : ∀ (N : Nat) (K : List Int), K.Nodup → (∀ a ∈ K, 0 ≤ a ∧ a < N) → K.length ≤ N := fun N => by
    induction N with
    | zero =>
      intro K _ hb
      have : K = [] := List.eq_nil_iff_forall_not_mem.2 fun a ha => by have := hb a ha; omega
      subst this; exact Nat.le_refl _
    | succ N ih =>
      intro K hn hb
      by_cases hm : (N : Int) ∈ K
      · have hl := List.length_erase_of_mem hm
        have hpos : 0 < K.length := List.length_pos_of_mem hm
        have := ih (K.erase (N : Int)) (hn.erase _) (fun a ha => by
          have h1 := (hn.mem_erase_iff).1 ha
          have := hb a h1.2
          have := h1.1
          omega)
        omega
      · have := ih K hn (fun a ha => by
          have := hb a ha
          have : a ≠ N := fun h => hm (h ▸ ha)
          omega)
        omega
  refine this _ l h.u fun a ha => ?_
  obtain ⟨j, hj, e⟩ := List.getElem_of_mem ha
  have := h.n j hj
  rw [List.getD_eq_getElem?_getD, List.getElem?_eq_getElem hj] at this
  rw [← e]; exact this
theorem C58 {s : Si} (hs : TkSm s.tk) : ∀ (f : Nat) {t : St8} {l : List Int}, OnOk s t → SetOk s t l → l.length ≤ f → PFD Tryz.prog 58 [div s t, .c (ints l)] (vbl (togB s f t l))
  | 0, t, l, h, hl, hf => by
    obtain rfl : l = [] := List.eq_nil_of_length_eq_zero (by omega)
    refine pi1 fn58 ?_
    (repeat' first | (refine Owe.same ?_; first | refine Owe.o ?_ | refine Owe.mk ?_ ?_) | (refine Fork.same ?_; (first | refine fkY ?_ | refine fkF ?_ | ((first | refine fkD ?_ ?_ | refine fkN ?_ ?_ | refine fkM ?_ ?_) <;> intro h))) | ((first | refine OpsL.same ?_ | refine OpsDL.same ?_); first | refine oK C75 rfl rfl rfl ?_) | refine MvQ.stay ?_)
    (refine rqK rfl ?_; (repeat' first | exact rfl | (refine qS ?_; constructor)))
  | f + 1, t, l, h, hl, hf => by
    have h6 := h.ok.n
    have hll := hl.len
    obtain ⟨q, hq⟩ : ∃ q, q = togB s (f + 1) t l := ⟨_, rfl⟩
    rw [← hq]
    rw [togB] at hq
    by_cases h0 : l = []
    · subst h0
      subst hq
      refine pi1 fn58 ?_
      (repeat' first | (refine Owe.same ?_; first | refine Owe.o ?_ | refine Owe.mk ?_ ?_) | (refine Fork.same ?_; (first | refine fkY ?_ | refine fkF ?_ | ((first | refine fkD ?_ ?_ | refine fkN ?_ ?_ | refine fkM ?_ ?_) <;> intro h))) | ((first | refine OpsL.same ?_ | refine OpsDL.same ?_); first | refine oK C75 rfl rfl rfl ?_) | refine MvQ.stay ?_)
      (refine rqK rfl ?_; (repeat' first | exact rfl | (refine qS ?_; constructor)))
    · have hpos := List.length_pos_iff.2 h0
      rw [decide_eq_false h0, Bool.false_or] at hq
      obtain ⟨F, hF⟩ : ∃ F, F = fun k => nowB s t l k && togB s f (nxS s t (l.getD k 0)) (wo l k) := ⟨_, rfl⟩
      rw [← hF] at hq
      refine pi1 fn58 ?_
      (repeat' first | (refine Owe.same ?_; first | refine Owe.o ?_ | refine Owe.mk ?_ ?_) | (refine Fork.same ?_; (first | refine fkY ?_ | refine fkF ?_ | ((first | refine fkD ?_ ?_ | refine fkN ?_ ?_ | refine fkM ?_ ?_) <;> intro h))) | ((first | refine OpsL.same ?_ | refine OpsDL.same ?_); first | refine oK C75 rfl rfl rfl ?_) | refine MvQ.stay ?_)
      refine Sat.lp0 (fun k : Nat => [(16, vi .i64 k), (15, vi .i64 l.length), (14, .c (ints l)), (1, .c (ints l)), (2, .c (.rp (diD s t)))]) (fun k => k ≤ l.length ∧ ∀ i, i < k → F i = false) (fun k => l.length - k) 0 ⟨Nat.zero_le _, fun i hi => by omega⟩ (by ((first | refine qen ?_ | refine qvs ?_ | refine qeq ?_ | refine qst ?_ | refine qv ?_ | refine qc ?_ | refine qe ?_ | refine qcs ?_ | skip); (repeat' first | exact rfl | (refine qS ?_; constructor)))) ?_
      intro k hk
      refine Fork.dec (fun hlt => ?_) (fun hlt => ?_)
      · have hlt : k < l.length := by omega
        have hn := hl.n k hlt
        have hFk : F k = (nowB s t l k && togB s f (nxS s t (l.getD k 0)) (wo l k)) := by rw [hF]
        have c1 := C98w (l := l) (k := k) (f := fun i => r1 (l.getD i 0)) (g := fun i => r1 (l.getD (k + 1 + i) 0)) (fun i _ => rfl) (fun i _ => rfl) rfl rfl ⟨hlt, by omega⟩
        (repeat' first | (refine Owe.same ?_; first | refine Owe.o ?_ | refine Owe.mk ?_ ?_) | (refine Fork.same ?_; (first | refine fkY ?_ | refine fkF ?_ | ((first | refine fkD ?_ ?_ | refine fkN ?_ ?_ | refine fkM ?_ ?_) <;> intro h))) | ((first | refine OpsL.same ?_ | refine OpsDL.same ?_); first | refine oK c1 rfl rfl rfl ?_) | refine MvQ.stay ?_)
        refine Ops.cs rfl rfl (CallS.of fn56 rfl ?_)
        (repeat' first | (refine Owe.same ?_; first | refine Owe.o ?_ | refine Owe.mk ?_ ?_) | (refine Fork.same ?_; (first | refine fkD ?_ ?_ | refine fkN ?_ ?_ | refine fkM ?_ ?_) <;> intro h) | refine MvQ.stay ?_)
        refine Ops.cs rfl rfl (CallS.of fn97 rfl ?_)
        (repeat' first | (refine Owe.same ?_; first | refine Owe.o ?_ | refine Owe.mk ?_ ?_) | (refine Fork.same ?_; (first | refine fkD ?_ ?_ | refine fkN ?_ ?_ | refine fkM ?_ ?_) <;> intro h) | refine MvQ.stay ?_)
        refine Sat.lp (fun j : Nat => ⟨[(8, vi .i64 j), (7, vi .i64 (tkA s (l.getD k 0)).a.length), (6, .c (ints (tkA s (l.getD k 0)).a)), (0, .c (ints (tkA s (l.getD k 0)).a)), (1, .c (.fn 99 [8]))], [(8, .box [ints (wo l k)])], 10⟩) (fun j => j ≤ (tkA s (l.getD k 0)).a.length ∧ ∀ i, i < j → decide ((tkA s (l.getD k 0)).a.getD i 0 ∈ wo l k) = false) (fun j => (tkA s (l.getD k 0)).a.length - j) 0 [] ⟨Nat.zero_le _, fun i hi => by omega⟩ ?_ ?_
        · (refine qis ?_ ?_ <;> (repeat' first | exact rfl | (refine qS ?_; constructor)))
        · intro j hj
          have hal : (tkA s (l.getD k 0)).a.length ≤ 1000000 := (hs (l.getD k 0).toNat (by omega)).2
          refine Fork.dec (fun hlj => ?_) (fun hlj => ?_)
          · have hlj : j < (tkA s (l.getD k 0)).a.length := by omega
            have c2 := C96 (l := wo l k) (n := (tkA s (l.getD k 0)).a.getD j 0) (by have := wo_len hlt; omega)
            (repeat' first | (refine Owe.same ?_; first | refine Owe.o ?_ | refine Owe.mk ?_ ?_) | (refine Fork.same ?_; (first | refine fkD ?_ ?_ | refine fkN ?_ ?_ | refine fkM ?_ ?_) <;> intro h) | refine MvQ.stay ?_)
            refine Ops.cs rfl rfl (CallS.of fn99 rfl ?_)
            (repeat' first | (refine Owe.same ?_; first | refine Owe.o ?_ | refine Owe.mk ?_ ?_) | (refine Fork.same ?_; (first | refine fkY ?_ | refine fkF ?_ | ((first | refine fkD ?_ ?_ | refine fkN ?_ ?_ | refine fkM ?_ ?_) <;> intro h))) | ((first | refine OpsL.same ?_ | refine OpsDL.same ?_); first | refine oK c2 rfl rfl rfl ?_) | refine MvQ.stay ?_)
            · have h : (tkA s (l.getD k 0)).a.getD j 0 ∈ wo l k := h
              have hw : (tkA s (l.getD k 0)).a.any (fun m => decide (m ∈ wo l k)) = true := List.any_eq_true.2 ⟨_, getD_mem 0 hlj, decide_eq_true h⟩
              rw [nowB, hw] at hFk
              exact again0 (k + 1) ⟨hlt, succ_all hk.2 hFk⟩ (by omega) (by ((first | refine qen ?_ | refine qvs ?_ | refine qeq ?_ | refine qst ?_ | refine qv ?_ | refine qc ?_ | refine qe ?_ | refine qcs ?_ | skip); (repeat' first | exact rfl | (refine qS ?_; constructor))))
            · have h : ¬ (tkA s (l.getD k 0)).a.getD j 0 ∈ wo l k := h
              refine again (j + 1) [] ⟨hlj, succ_all hj.2 (decide_eq_false h)⟩ (by omega) ?_
              (refine qis ?_ ?_ <;> (repeat' first | exact rfl | (refine qS ?_; constructor)))
          · have hjl : j = (tkA s (l.getD k 0)).a.length := by omega
            have hw : (tkA s (l.getD k 0)).a.any (fun m => decide (m ∈ wo l k)) = false := List.any_eq_false.2 fun x hx => by
              obtain ⟨i, hi, e⟩ := List.getElem_of_mem hx
              have := hj.2 i (by omega)
              rw [List.getD_eq_getElem?_getD, List.getElem?_eq_getElem hi] at this
              rw [← e]; simpa using this
            rw [nowB, hw] at hFk
            have hx : l.getD k 0 ∉ t.d := hl.d _ (getD_mem 0 hlt)
            have c3 := C100 (s := s) (t := t) (n := l.getD k 0) ⟨h, by have := h.dl; omega, hn⟩
            (repeat' first | (refine Owe.same ?_; first | refine Owe.o ?_ | refine Owe.mk ?_ ?_) | (refine Fork.same ?_; (first | refine fkY ?_ | refine fkF ?_ | ((first | refine fkD ?_ ?_ | refine fkN ?_ ?_ | refine fkM ?_ ?_) <;> intro h))) | ((first | refine OpsL.same ?_ | refine OpsDL.same ?_); first | refine oK C75 rfl rfl rfl ?_) | refine MvQ.stay ?_)
            by_cases hz : nxE s t (l.getD k 0) = 0
            · obtain ⟨h1, h2, h3⟩ := nxS_ok h hn hx hz
              have c4 := C58 hs f h1 (hl.wo hlt h3) (by have := wo_len hlt; omega)
              rw [decide_eq_true hz] at hFk
              rw [hz] at c3
              generalize nxS s t (l.getD k 0) = X at *
              generalize togB s f X (wo l k) = b at *
              (repeat' first | (refine Owe.same ?_; first | refine Owe.o ?_ | refine Owe.mk ?_ ?_) | (refine Fork.same ?_; (first | refine fkY ?_ | refine fkF ?_ | ((first | refine fkD ?_ ?_ | refine fkN ?_ ?_ | refine fkM ?_ ?_) <;> intro h))) | ((first | refine OpsL.same ?_ | refine OpsDL.same ?_); first | refine oK c3 rfl rfl rfl ?_) | refine MvQ.stay ?_)
              (repeat' first | (refine Owe.same ?_; first | refine Owe.o ?_ | refine Owe.mk ?_ ?_) | (refine Fork.same ?_; (first | refine fkY ?_ | refine fkF ?_ | ((first | refine fkD ?_ ?_ | refine fkN ?_ ?_ | refine fkM ?_ ?_) <;> intro h))) | ((first | refine OpsL.same ?_ | refine OpsDL.same ?_); first | refine oK c4 rfl rfl rfl ?_) | refine MvQ.stay ?_)
              · have hb : b = true := by simpa using h
                subst hb
                rw [anyN_t hlt hFk] at hq
                subst hq
                (refine rqK rfl ?_; (repeat' first | exact rfl | (refine qS ?_; constructor)))
              · have hb : b = false := by simpa using h
                subst hb
                exact again0 (k + 1) ⟨hlt, succ_all hk.2 hFk⟩ (by omega) (by ((first | refine qen ?_ | refine qvs ?_ | refine qeq ?_ | refine qst ?_ | refine qv ?_ | refine qc ?_ | refine qe ?_ | refine qcs ?_ | skip); (repeat' first | exact rfl | (refine qS ?_; constructor))))
            · rw [decide_eq_false hz] at hFk
              generalize nxE s t (l.getD k 0) = E at *
              (repeat' first | (refine Owe.same ?_; first | refine Owe.o ?_ | refine Owe.mk ?_ ?_) | (refine Fork.same ?_; (first | refine fkY ?_ | refine fkF ?_ | ((first | refine fkD ?_ ?_ | refine fkN ?_ ?_ | refine fkM ?_ ?_) <;> intro h))) | ((first | refine OpsL.same ?_ | refine OpsDL.same ?_); first | refine oK c3 rfl rfl rfl ?_) | refine MvQ.stay ?_)
              have hFk : F k = false := by rw [hFk]; simp
              exact again0 (k + 1) ⟨hlt, succ_all hk.2 hFk⟩ (by omega) (by ((first | refine qen ?_ | refine qvs ?_ | refine qeq ?_ | refine qst ?_ | refine qv ?_ | refine qc ?_ | refine qe ?_ | refine qcs ?_ | skip); (repeat' first | exact rfl | (refine qS ?_; constructor))))
      · have : k = l.length := by omega
        subst this
        rw [anyN_f.2 hk.2] at hq
        subst hq
        (repeat' first | (refine Owe.same ?_; first | refine Owe.o ?_ | refine Owe.mk ?_ ?_) | (refine Fork.same ?_; (first | refine fkD ?_ ?_ | refine fkN ?_ ?_ | refine fkM ?_ ?_) <;> intro h) | refine MvQ.stay ?_)
        (refine rqK rfl ?_; (repeat' first | exact rfl | (refine qS ?_; constructor)))
end Go.Pw

set_option linter.unusedSimpArgs false
set_option linter.unusedVariables false
set_option maxHeartbeats 4000000
namespace Go.Pw
set_option maxRecDepth 2000
open Go Go.Proofs A1 A2 A3 A4
theorem C26 {s : Si} {n : Int} : s.tk.length ≤ 1000000 → PFD Tryz.prog 26 [siv s, vi .i64 n] (vbl (wi n 0 ((s.tk.length : Int) - 1))) := fun hs => by
  refine pi1 fn26 ?_
  (repeat' first | (refine Owe.same ?_; first | refine Owe.o ?_ | refine Owe.mk ?_ ?_) | (refine Fork.same ?_; (first | refine fkD ?_ ?_ | refine fkN ?_ ?_ | refine fkM ?_ ?_) <;> intro h) | ((first | refine OpsL.same ?_ | refine OpsDL.same ?_); first | refine pK C75 rfl rfl ?_) | refine MvQ.stay ?_)
  (refine rqK rfl ?_; (repeat' first | exact rfl | (refine qS ?_; constructor)))
theorem C10 {t : St8} : PFD Tryz.prog 10 [stv t] (vbl (decide ((t.d.length : Int) ≤ 8))) := by
  refine pi1 fn10 ?_
  (repeat' first | (refine Owe.same ?_; first | refine Owe.o ?_ | refine Owe.mk ?_ ?_) | (refine Fork.same ?_; (first | refine fkD ?_ ?_ | refine fkN ?_ ?_ | refine fkM ?_ ?_) <;> intro h) | refine MvQ.stay ?_)
  (refine rqK rfl ?_; (repeat' first | exact rfl | (refine qS ?_; constructor)))
/-- The sizes of tasks are small. -/
abbrev fewT (l : List Tk) : Prop := (l.length : Int) ≤ 8 ∧ ∀ i, i < l.length → ((l.getD i tk0).n.size : Int) ≤ 20 ∧ ((l.getD i tk0).a.length : Int) ≤ 8
theorem C51 {l : List Tk} : PFD Tryz.prog 51 [.c (tks l)] (vbl (decide (fewT l))) := by
  refine pi1 fn51 ?_
  (repeat' first | (refine Owe.same ?_; first | refine Owe.o ?_ | refine Owe.mk ?_ ?_) | (refine Fork.same ?_; (first | refine fkD ?_ ?_ | refine fkN ?_ ?_ | refine fkM ?_ ?_) <;> intro h) | refine MvQ.stay ?_)
  · (refine rqK rfl ?_; (repeat' first | exact rfl | (refine qS ?_; constructor))); simp only [decide_eq_false_iff_not]; intro hh; exact absurd hh.1 (by omega)
  · have h8 : l.length ≤ 8 := by omega
    clear h
    refine Sat.lp0 (fun k : Nat => [(3, vi .i64 k), (0, .c (tks l))]) (fun k => k ≤ l.length ∧ ∀ i, i < k → ((l.getD i tk0).n.size : Int) ≤ 20 ∧ ((l.getD i tk0).a.length : Int) ≤ 8) (fun k => l.length - k) 0 ⟨Nat.zero_le _, fun i hi => by omega⟩ (by ((first | refine qen ?_ | refine qvs ?_ | refine qeq ?_ | refine qst ?_ | refine qv ?_ | refine qc ?_ | refine qe ?_ | refine qcs ?_ | skip); (repeat' first | exact rfl | (refine qS ?_; constructor)))) ?_
    intro k hk
    refine Fork.dec (fun hlt => ?_) (fun hlt => ?_)
    · have hlt : k < l.length := by omega
      (repeat' first | (refine Owe.same ?_; first | refine Owe.o ?_ | refine Owe.mk ?_ ?_) | (refine Fork.same ?_; (first | refine fkD ?_ ?_ | refine fkN ?_ ?_ | refine fkM ?_ ?_) <;> intro h) | refine MvQ.stay ?_)
      · (refine rqK rfl ?_; (repeat' first | exact rfl | (refine qS ?_; constructor))); simp only [decide_eq_false_iff_not]
        intro hh; have := (hh.2 k hlt).1; simp only [Int.toNat_natCast] at h; omega
      · (refine rqK rfl ?_; (repeat' first | exact rfl | (refine qS ?_; constructor))); simp only [decide_eq_false_iff_not]
        intro hh; have := (hh.2 k hlt).2; simp only [Int.toNat_natCast] at h; omega
      · rename_i h1
        simp only [Int.toNat_natCast] at h h1
        exact again0 (k + 1) ⟨hlt, succ_all hk.2 ⟨by omega, by omega⟩⟩ (by omega) (by ((first | refine qen ?_ | refine qvs ?_ | refine qeq ?_ | refine qst ?_ | refine qv ?_ | refine qc ?_ | refine qe ?_ | refine qcs ?_ | skip); (repeat' first | exact rfl | (refine qS ?_; constructor))))
    · have : k = l.length := by omega
      subst this
      (repeat' first | (refine Owe.same ?_; first | refine Owe.o ?_ | refine Owe.mk ?_ ?_) | (refine Fork.same ?_; (first | refine fkD ?_ ?_ | refine fkN ?_ ?_ | refine fkM ?_ ?_) <;> intro h) | refine MvQ.stay ?_)
      (refine rqK rfl ?_; (repeat' first | exact rfl | (refine qS ?_; constructor)))
      exact decide_eq_true ⟨by omega, hk.2⟩
/-- The sizes of a site are small. -/
structure Few (s : Si) : Prop where
  t : fewT s.tk
  h : (s.ho.length : Int) ≤ 7
  r : (s.tr.length : Int) ≤ 7
  i : (s.ti.length : Int) ≤ 8
  a : ∀ i, i < s.tr.length → ((s.tr.getD i []).length : Int) ≤ 7
abbrev fewP (s : Si) : Prop := fewT s.tk ∧ (s.ho.length : Int) ≤ 7 ∧ (s.tr.length : Int) ≤ 7 ∧ (s.ti.length : Int) ≤ 8 ∧ ∀ i, i < s.tr.length → ((s.tr.getD i []).length : Int) ≤ 7
theorem Few.of {s : Si} (h : fewP s) : Few s := ⟨h.1, h.2.1, h.2.2.1, h.2.2.2.1, h.2.2.2.2⟩
abbrev fewB (s : Si) : Bool := decide (fewP s)
theorem Few.sm {s : Si} (h : Few s) : SiSm s where
  tk := by have := h.t.1; omega
  t := fun i hi => by have := h.t.2 i hi; omega
  tr := by have := h.r; omega
  r := fun i hi => by have := h.a i hi; omega
  ho := by have := h.h; omega
  ti := by have := h.i; omega
theorem C9 {s : Si} : PFD Tryz.prog 9 [siv s] (vbl (fewB s)) := by
  have c1 := C51 (l := s.tk)
  by_cases hF : fewT s.tk ∧ (s.ho.length : Int) ≤ 7 ∧ (s.tr.length : Int) ≤ 7 ∧ (s.ti.length : Int) ≤ 8
  · obtain ⟨f1, f2, f3, f4⟩ := hF
    rw [decide_eq_true f1] at c1
    refine pi1 fn9 ?_
    (repeat' first | (refine Owe.same ?_; first | refine Owe.o ?_ | refine Owe.mk ?_ ?_) | (refine Fork.same ?_; (first | refine fkY ?_ | refine fkF ?_ | ((first | refine fkD ?_ ?_ | refine fkN ?_ ?_ | refine fkM ?_ ?_) <;> intro h))) | ((first | refine OpsL.same ?_ | refine OpsDL.same ?_); first | refine oK c1 rfl rfl rfl ?_) | refine MvQ.stay ?_)
    refine Sat.lp0 (fun k : Nat => [(3, vi .i64 k), (1, .c (.rp (siD s)))]) (fun k => k ≤ s.tr.length ∧ ∀ i, i < k → ((s.tr.getD i []).length : Int) ≤ 7) (fun k => s.tr.length - k) 0 ⟨Nat.zero_le _, fun i hi => by omega⟩ (by ((first | refine qen ?_ | refine qvs ?_ | refine qeq ?_ | refine qst ?_ | refine qv ?_ | refine qc ?_ | refine qe ?_ | refine qcs ?_ | skip); (repeat' first | exact rfl | (refine qS ?_; constructor)))) ?_
    intro k hk
    refine Fork.dec (fun hlt => ?_) (fun hlt => ?_)
    · have hlt : k < s.tr.length := by omega
      (repeat' first | (refine Owe.same ?_; first | refine Owe.o ?_ | refine Owe.mk ?_ ?_) | (refine Fork.same ?_; (first | refine fkD ?_ ?_ | refine fkN ?_ ?_ | refine fkM ?_ ?_) <;> intro h) | refine MvQ.stay ?_)
      · (refine rqK rfl ?_; (repeat' first | exact rfl | (refine qS ?_; constructor))); refine decide_eq_false fun hh => ?_
        have := hh.2.2.2.2 k hlt; simp only [Int.toNat_natCast] at h; omega
      · simp only [Int.toNat_natCast] at h
        exact again0 (k + 1) ⟨hlt, succ_all hk.2 (by omega)⟩ (by omega) (by ((first | refine qen ?_ | refine qvs ?_ | refine qeq ?_ | refine qst ?_ | refine qv ?_ | refine qc ?_ | refine qe ?_ | refine qcs ?_ | skip); (repeat' first | exact rfl | (refine qS ?_; constructor))))
    · have : k = s.tr.length := by omega
      subst this
      (repeat' first | (refine Owe.same ?_; first | refine Owe.o ?_ | refine Owe.mk ?_ ?_) | (refine Fork.same ?_; (first | refine fkD ?_ ?_ | refine fkN ?_ ?_ | refine fkM ?_ ?_) <;> intro h) | refine MvQ.stay ?_)
      (refine rqK rfl ?_; (repeat' first | exact rfl | (refine qS ?_; constructor)))
      exact decide_eq_true ⟨f1, f2, f3, f4, hk.2⟩
  · have e : fewB s = false := decide_eq_false fun hh => hF ⟨hh.1, hh.2.1, hh.2.2.1, hh.2.2.2.1⟩
    rw [e]
    by_cases f1 : fewT s.tk
    · rw [decide_eq_true f1] at c1
      by_cases f2 : (s.ho.length : Int) ≤ 7
      · by_cases f3 : (s.tr.length : Int) ≤ 7
        · have f4 : ¬ (s.ti.length : Int) ≤ 8 := fun f4 => hF ⟨f1, f2, f3, f4⟩
          refine pi1 fn9 ?_
          (repeat' first | (refine Owe.same ?_; first | refine Owe.o ?_ | refine Owe.mk ?_ ?_) | (refine Fork.same ?_; (first | refine fkY ?_ | refine fkF ?_ | ((first | refine fkD ?_ ?_ | refine fkN ?_ ?_ | refine fkM ?_ ?_) <;> intro h))) | ((first | refine OpsL.same ?_ | refine OpsDL.same ?_); first | refine oK c1 rfl rfl rfl ?_) | refine MvQ.stay ?_)
          (refine rqK rfl ?_; (repeat' first | exact rfl | (refine qS ?_; constructor)))
        · refine pi1 fn9 ?_
          (repeat' first | (refine Owe.same ?_; first | refine Owe.o ?_ | refine Owe.mk ?_ ?_) | (refine Fork.same ?_; (first | refine fkY ?_ | refine fkF ?_ | ((first | refine fkD ?_ ?_ | refine fkN ?_ ?_ | refine fkM ?_ ?_) <;> intro h))) | ((first | refine OpsL.same ?_ | refine OpsDL.same ?_); first | refine oK c1 rfl rfl rfl ?_) | refine MvQ.stay ?_)
          (refine rqK rfl ?_; (repeat' first | exact rfl | (refine qS ?_; constructor)))
      · refine pi1 fn9 ?_
        (repeat' first | (refine Owe.same ?_; first | refine Owe.o ?_ | refine Owe.mk ?_ ?_) | (refine Fork.same ?_; (first | refine fkY ?_ | refine fkF ?_ | ((first | refine fkD ?_ ?_ | refine fkN ?_ ?_ | refine fkM ?_ ?_) <;> intro h))) | ((first | refine OpsL.same ?_ | refine OpsDL.same ?_); first | refine oK c1 rfl rfl rfl ?_) | refine MvQ.stay ?_)
        (refine rqK rfl ?_; (repeat' first | exact rfl | (refine qS ?_; constructor)))
    · rw [decide_eq_false f1] at c1
      refine pi1 fn9 ?_
      (repeat' first | (refine Owe.same ?_; first | refine Owe.o ?_ | refine Owe.mk ?_ ?_) | (refine Fork.same ?_; (first | refine fkY ?_ | refine fkF ?_ | ((first | refine fkD ?_ ?_ | refine fkN ?_ ?_ | refine fkM ?_ ?_) <;> intro h))) | ((first | refine OpsL.same ?_ | refine OpsDL.same ?_); first | refine oK c1 rfl rfl rfl ?_) | refine MvQ.stay ?_)
      (refine rqK rfl ?_; (repeat' first | exact rfl | (refine qS ?_; constructor)))
end Go.Pw

set_option linter.unusedSimpArgs false
set_option linter.unusedVariables false
set_option maxHeartbeats 4000000
namespace Go.Pw
set_option maxRecDepth 2000
open Go Go.Proofs A1 A2 A3 A4
abbrev tkC (t : Tk) : List C := [str t.n, int t.p, int t.d, int t.w, int t.o, int t.v, int t.lo, int t.hi, ints t.a]
abbrev rgP (t : Tk) : Prop := ((0 ≤ t.p ∧ t.p ≤ 4) ∧ isN t.d ∧ isN t.w ∧ isN t.o ∧ isN t.v) ∧ isT t.lo ∧ isT t.hi
theorem odd4 {a b c d : Int} : oddI [a, b, c, d] = false ↔ isN a ∧ isN b ∧ isN c ∧ isN d := by
  simp [oddI]
theorem tkE_n {l : List Tk} {k : Nat} (h : ¬ nmP (l.getD k tk0).n) : tkE l k = 4 := by
  have e : tkF l k (l.getD k tk0) = 4 := by rw [tkF, unl, decide_eq_false h]; rfl
  rw [tkE, e]; rfl
theorem tkE_k {l : List Tk} {k : Nat} (h : nmP (l.getD k tk0).n) (h1 : knB l k (l.getD k tk0).n = true) : tkE l k = 5 := by
  have e : tkF l k (l.getD k tk0) = 5 := by rw [tkF, h1, unl, decide_eq_true h]; rfl
  rw [tkE, e]; rfl
theorem fst_00 {b : Bool} {x : Int} : fstE [0, 0, unb b 2, x] = if b = true then x else 2 := by
  cases b
  · rfl
  · show (if x = 0 then 0 else x) = x
    split
    · rename_i h; exact h.symm
    · rfl
theorem tksE_eq {lo hi : Int} : tksE lo hi = if isT lo ∧ isT hi then unl (lo ≤ hi) 9 else 2 := by
  rw [tksE]
  by_cases h : isT lo ∧ isT hi
  · rw [if_pos h, unl, decide_eq_true h]
    by_cases h1 : lo ≤ hi
    · rw [unl, decide_eq_true h1]; rfl
    · rw [unl, decide_eq_false h1]; rfl
  · rw [if_neg h, unl, decide_eq_false h]; rfl
theorem tkE_g {l : List Tk} {k : Nat} (h : nmP (l.getD k tk0).n) (h1 : knB l k (l.getD k tk0).n = false) : tkF l k (l.getD k tk0) = if rgP (l.getD k tk0) then unl ((l.getD k tk0).lo ≤ (l.getD k tk0).hi) 9 else 2 := by
  rw [tkF, h1, unl, decide_eq_true h]
  generalize l.getD k tk0 = t
  show fstE [0, 0, unb _ 2, _] = _
  rw [fst_00, tksE_eq]
  by_cases h2 : 0 ≤ t.p ∧ t.p ≤ 4
  · rcases ho : oddI [t.d, t.w, t.o, t.v] with _ | _
    · have h3 := odd4.1 ho
      rw [decide_eq_true h2, if_pos (show (true && !false) = true from rfl)]
      by_cases h4 : isT t.lo ∧ isT t.hi
      · rw [if_pos h4, if_pos ⟨⟨h2, h3⟩, h4⟩]
      · rw [if_neg h4, if_neg (fun hh => h4 hh.2)]
    · rw [if_neg (by simp), if_neg]
      rintro ⟨⟨_, h3⟩, _⟩
      rw [odd4.2 h3] at ho; cases ho
  · rw [decide_eq_false h2, if_neg (by simp), if_neg (fun hh => h2 hh.1.1)]
theorem tkE_r {l : List Tk} {k : Nat} (h : nmP (l.getD k tk0).n) (h1 : knB l k (l.getD k tk0).n = false) (h2 : ¬ rgP (l.getD k tk0)) : tkE l k = 2 := by
  have e := tkE_g h h1
  rw [if_neg h2] at e
  rw [tkE, e]; rfl
theorem tkE_o {l : List Tk} {k : Nat} (h : nmP (l.getD k tk0).n) (h1 : knB l k (l.getD k tk0).n = false) (h2 : rgP (l.getD k tk0)) (h3 : ¬ (l.getD k tk0).lo ≤ (l.getD k tk0).hi) : tkE l k = 9 := by
  have e := tkE_g h h1
  rw [if_pos h2, unl, decide_eq_false h3] at e
  rw [tkE, e]; rfl
theorem tkE_a {l : List Tk} {k : Nat} (h : nmP (l.getD k tk0).n) (h1 : knB l k (l.getD k tk0).n = false) (h2 : rgP (l.getD k tk0)) (h3 : (l.getD k tk0).lo ≤ (l.getD k tk0).hi) : tkE l k = (ascE (l.getD k tk0).a k).2 := by
  have e := tkE_g h h1
  rw [if_pos h2, unl, decide_eq_true h3] at e
  rw [tkE, e]; rfl
theorem ascN_6 {l : List Int} {b : Int} {j : Nat} (h : ¬ (0 ≤ l.getD j 0 ∧ l.getD j 0 ≤ b - 1)) : ascN l b j = 6 := by
  rw [ascN, unl, decide_eq_false h]; rfl
theorem ascN_9 {l : List Int} {b : Int} {j : Nat} (h : 0 ≤ l.getD j 0 ∧ l.getD j 0 ≤ b - 1) (hj : 0 < j) (h1 : l.getD j 0 ≤ l.getD (j - 1) 0) : ascN l b j = 9 := by
  rw [ascN, unl, decide_eq_true h, lastI, if_neg (by omega), unl, decide_eq_false (by omega)]; rfl
theorem ascN_0 {l : List Int} {b : Int} {j : Nat} (h : 0 ≤ l.getD j 0 ∧ l.getD j 0 ≤ b - 1) (h1 : 0 < j → l.getD (j - 1) 0 < l.getD j 0) : ascN l b j = 0 := by
  rw [ascN, fst2, unl0 (by decide), unl0 (by decide)]
  refine ⟨h, ?_⟩
  rw [lastI]
  split
  · omega
  · exact h1 (by omega)
theorem C114 {l : List Tk} : (l.length ≤ 1000000 ∧ TkSm l) → PFD Tryz.prog 114 [.c (tks l)] (.tup [vi .i64 (tsE l).1, vi .i64 (tsE l).2]) := fun ⟨hl, hs⟩ => by
  obtain ⟨q, hq⟩ : ∃ q, q = tsE l := ⟨_, rfl⟩
  rw [← hq]
  rw [tsE] at hq
  refine pi2 fn114 ?_
  (repeat' first | (refine Owe.same ?_; first | refine Owe.o ?_ | refine Owe.mk ?_ ?_) | (refine Fork.same ?_; (first | refine fkD ?_ ?_ | refine fkN ?_ ?_ | refine fkM ?_ ?_) <;> intro h) | refine MvQ.stay ?_)
  · rw [if_pos (by omega)] at hq; subst hq; (refine rqK rfl ?_; (repeat' first | exact rfl | (refine qS ?_; constructor)))
  · rw [if_neg (by omega)] at hq
    clear h
    have hret : ∀ {k}, k < l.length → (∀ i, i < k → tkE l i = 0) → ∀ {e}, tkE l k = e → ¬ e = 0 → q = ((k : Int), e) := fun hk h1 e he h2 => by
      have h3 := eachN_e hk h1 (by rw [he]; exact h2)
      rw [h3, he] at hq; exact hq
    refine Sat.lp0 (fun k : Nat => [(4, vi .i64 k), (0, .c (tks l))]) (fun k => k ≤ l.length ∧ ∀ i, i < k → tkE l i = 0) (fun k => l.length - k) 0 ⟨Nat.zero_le _, fun i hi => by omega⟩ (by ((first | refine qen ?_ | refine qvs ?_ | refine qeq ?_ | refine qst ?_ | refine qv ?_ | refine qc ?_ | refine qe ?_ | refine qcs ?_ | skip); (repeat' first | exact rfl | (refine qS ?_; constructor)))) ?_
    intro k hk
    refine Fork.dec (fun hlt => ?_) (fun hlt => ?_)
    · have hlt : k < l.length := by omega
      obtain ⟨s1, s2⟩ := hs k hlt
      have hret := fun {e} => @hret k hlt hk.2 e
      have c1 := C135 (s := (l.getD k tk0).n) s1
      (repeat' first | (refine Owe.same ?_; first | refine Owe.o ?_ | refine Owe.mk ?_ ?_) | (refine Fork.same ?_; (first | refine fkD ?_ ?_ | refine fkN ?_ ?_ | refine fkM ?_ ?_) <;> intro h) | ((first | refine OpsL.same ?_ | refine OpsDL.same ?_); first | refine pK c1 rfl rfl ?_) | refine MvQ.stay ?_)
      · have hx := hret (tkE_n (by simpa using h)) (by decide)
        subst hx; (refine rqK rfl ?_; (repeat' first | exact rfl | (refine qS ?_; constructor)))
      · have hn : nmP (l.getD k tk0).n := by simpa using h
        clear h
        refine Sat.lp (fun j : Nat => ⟨[(6, vi .i64 j), (5, .c (.bp 0 0)), (4, vi .i64 k), (0, .c (tks l))], [(0, .box (tkC (l.getD k tk0)))], 1⟩) (fun j => j ≤ k ∧ ∀ i, i < j → decide ((l.getD i tk0).n.data.toList = (l.getD k tk0).n.data.toList) = false) (fun j => k - j) 0 [0] ⟨Nat.zero_le _, fun i hi => by omega⟩ ?_ ?_
        · (refine qis ?_ ?_ <;> (repeat' first | exact rfl | (refine qS ?_; constructor)))
        · intro j hj
          refine Fork.dec (fun hlj => ?_) (fun hlj => ?_)
          · have hlj : j < k := by omega
            (repeat' first | (refine Owe.same ?_; first | refine Owe.o ?_ | refine Owe.mk ?_ ?_) | (refine Fork.same ?_; (first | refine fkD ?_ ?_ | refine fkN ?_ ?_ | refine fkM ?_ ?_) <;> intro h) | refine MvQ.stay ?_)
            · have h : (l.getD j tk0).n.data.toList = (l.getD k tk0).n.data.toList := h
              have hx := hret (tkE_k hn (anyN_t hlj (decide_eq_true h))) (by decide)
              subst hx; (refine rqK rfl ?_; (repeat' first | exact rfl | (refine qS ?_; constructor)))
            · have h : ¬ (l.getD j tk0).n.data.toList = (l.getD k tk0).n.data.toList := h
              refine again (j + 1) [0] ⟨hlj, succ_all hj.2 (decide_eq_false h)⟩ (by omega) ?_
              (refine qis ?_ ?_ <;> (repeat' first | exact rfl | (refine qS ?_; constructor)))
          · have : j = k := by omega
            subst this
            have hkn := anyN_f.2 hj.2
            have hr := tkE_r hn hkn
            have ho := tkE_o hn hkn
            have ha := tkE_a hn hkn
            (repeat' first | (refine Owe.same ?_; first | refine Owe.o ?_ | refine Owe.mk ?_ ?_) | (refine Fork.same ?_; (first | refine fkD ?_ ?_ | refine fkN ?_ ?_ | refine fkM ?_ ?_) <;> intro h) | ((first | refine OpsL.same ?_ | refine OpsDL.same ?_); first | refine pK C75 rfl rfl ?_ | refine pK C115 rfl rfl ?_ | refine pK C116 rfl rfl ?_) | refine MvQ.stay ?_)
            all_goals try (
              have hx := hret (hr (fun hh => by
                obtain ⟨⟨g1, g2, g3, g4, g5⟩, g6, g7⟩ := hh
                first | exact h g1 | exact h g2 | exact h g3 | exact h g4 | exact h g5 | exact h g6 | exact h g7)) (by decide)
              subst hx
              (refine rqK rfl ?_; (repeat' first | exact rfl | (refine qS ?_; constructor)))
              done)
            all_goals
              obtain ⟨g7, g6, g5, g4, g3, g2, g1⟩ := (show _ ∧ _ ∧ _ ∧ _ ∧ _ ∧ _ ∧ _ from ⟨by assumption, by assumption, by assumption, by assumption, by assumption, by assumption, by assumption⟩ : isT (l.getD j tk0).hi ∧ isT (l.getD j tk0).lo ∧ isN (l.getD j tk0).v ∧ isN (l.getD j tk0).o ∧ isN (l.getD j tk0).w ∧ isN (l.getD j tk0).d ∧ (0 ≤ (l.getD j tk0).p ∧ (l.getD j tk0).p ≤ 4))
              have hg : rgP (l.getD j tk0) := ⟨⟨g1, g2, g3, g4, g5⟩, g6, g7⟩
            · have h : (l.getD j tk0).hi < (l.getD j tk0).lo := h
              have hx := hret (ho hg (by omega)) (by decide)
              subst hx
              (refine rqK rfl ?_; (repeat' first | exact rfl | (refine qS ?_; constructor)))
            · have h : ¬ (l.getD j tk0).hi < (l.getD j tk0).lo := h
              have ha := ha hg (by omega)
              clear hr ho hj hkn hlj
              refine Sat.lp (fun m : Nat => ⟨[(7, vi .i64 m), (5, .c (.bp 0 0)), (4, vi .i64 j), (0, .c (tks l))], [(0, .box (tkC (l.getD j tk0)))], 1⟩) (fun m => m ≤ (l.getD j tk0).a.length ∧ ∀ i, i < m → ascN (l.getD j tk0).a j i = 0) (fun m => (l.getD j tk0).a.length - m) 0 [0] ⟨Nat.zero_le _, fun i hi => by omega⟩ ?_ ?_
              · (refine qis ?_ ?_ <;> (repeat' first | exact rfl | (refine qS ?_; constructor)))
              · intro m hm
                refine Fork.dec (fun hlm => ?_) (fun hlm => ?_)
                · have hlm : m < (l.getD j tk0).a.length := by omega
                  have hr : ∀ {e}, ascN (l.getD j tk0).a j m = e → ¬ e = 0 → q = ((j : Int), e) := fun he h2 => by
                    refine hret ?_ h2
                    rw [ha, ascE, eachN_e hlm hm.2 (by rw [he]; exact h2)]
                    exact he
                  (repeat' first | (refine Owe.same ?_; first | refine Owe.o ?_ | refine Owe.mk ?_ ?_) | (refine Fork.same ?_; (first | refine fkD ?_ ?_ | refine fkN ?_ ?_ | refine fkM ?_ ?_) <;> intro h) | ((first | refine OpsL.same ?_ | refine OpsDL.same ?_); first | refine pK C75 rfl rfl ?_) | refine MvQ.stay ?_)
                  · have hx := hr (ascN_6 h) (by decide)
                    subst hx
                    (refine rqK rfl ?_; (repeat' first | exact rfl | (refine qS ?_; constructor)))
                  · have hx := hr (ascN_9 ‹_› (by omega) (by rw [show m - 1 = ((m : Int) - 1).toNat by omega]; exact h)) (by decide)
                    subst hx
                    (refine rqK rfl ?_; (repeat' first | exact rfl | (refine qS ?_; constructor)))
                  · have h0 := ascN_0 (l := (l.getD j tk0).a) (b := j) (j := m) ‹_› (fun _ => by
                      have h : ¬ (l.getD j tk0).a.getD m 0 ≤ (l.getD j tk0).a.getD ((m : Int) - 1).toNat 0 := h
                      rw [show m - 1 = ((m : Int) - 1).toNat by omega]; omega)
                    refine again (m + 1) [0] ⟨hlm, succ_all hm.2 h0⟩ (by omega) ?_
                    (refine qis ?_ ?_ <;> (repeat' first | exact rfl | (refine qS ?_; constructor)))
                  · have h0 := ascN_0 (l := (l.getD j tk0).a) (b := j) (j := m) ‹_› (fun hh => by omega)
                    refine again (m + 1) [0] ⟨hlm, succ_all hm.2 h0⟩ (by omega) ?_
                    (refine qis ?_ ?_ <;> (repeat' first | exact rfl | (refine qS ?_; constructor)))
                · have : m = (l.getD j tk0).a.length := by omega
                  subst this
                  rw [ascE, eachN_z hm.2] at ha
                  (repeat' first | (refine Owe.same ?_; first | refine Owe.o ?_ | refine Owe.mk ?_ ?_) | (refine Fork.same ?_; (first | refine fkD ?_ ?_ | refine fkN ?_ ?_ | refine fkM ?_ ?_) <;> intro h) | refine MvQ.stay ?_)
                  exact again0 (j + 1) ⟨hlt, succ_all hk.2 ha⟩ (by omega) (by ((first | refine qen ?_ | refine qvs ?_ | refine qeq ?_ | refine qst ?_ | refine qv ?_ | refine qc ?_ | refine qe ?_ | refine qcs ?_ | skip); (repeat' first | exact rfl | (refine qS ?_; constructor))))
    · have : k = l.length := by omega
      subst this
      rw [eachN_z hk.2] at hq
      subst hq
      (repeat' first | (refine Owe.same ?_; first | refine Owe.o ?_ | refine Owe.mk ?_ ?_) | (refine Fork.same ?_; (first | refine fkD ?_ ?_ | refine fkN ?_ ?_ | refine fkM ?_ ?_) <;> intro h) | refine MvQ.stay ?_)
      (refine rqK rfl ?_; (repeat' first | exact rfl | (refine qS ?_; constructor)))
end Go.Pw

set_option linter.unusedSimpArgs false
set_option linter.unusedVariables false
set_option maxHeartbeats 4000000
namespace Go.Pw
set_option maxRecDepth 2000
open Go Go.Proofs A1 A2 A3 A4
theorem hm_1 {s : Si} {i : Nat} (h : ¬ isN (s.ho.getD i 0)) : hmN s i = 2 := by
  rw [hmN, unl, decide_eq_false h]; rfl
theorem hm_2 {s : Si} {i : Nat} (h : isN (s.ho.getD i 0)) (h1 : ¬ ((s.tr.getD i []).length : Int) = s.ho.length) : hmN s i = 10 := by
  rw [hmN, unl, decide_eq_true h, unl, decide_eq_false h1]; rfl
theorem hm_3 {s : Si} {i j : Nat} (h : isN (s.ho.getD i 0)) (h1 : ((s.tr.getD i []).length : Int) = s.ho.length) (hj : j < s.ho.length) (h2 : ¬ isN ((s.tr.getD i []).getD j 0) ∨ (i = j ∧ (s.tr.getD i []).getD j 0 ≠ 0)) : hmN s i = 2 := by
  have hb : hmB s i = false := by
    rcases h2 with h2 | ⟨rfl, h2⟩
    · have : oddI (s.tr.getD i []) = true := List.any_eq_true.2 ⟨_, getD_mem 0 (show j < (s.tr.getD i []).length by omega), by rw [decide_eq_false h2]; rfl⟩
      rw [hmB, this]; rfl
    · rw [hmB, decide_eq_false (by omega), decide_eq_false h2]; simp
  rw [hmN, hb, unl, decide_eq_true h, unl, decide_eq_true h1]; rfl
theorem hm_0 {s : Si} {i : Nat} (h : isN (s.ho.getD i 0)) (h1 : ((s.tr.getD i []).length : Int) = s.ho.length) (h2 : ∀ j, j < s.ho.length → isN ((s.tr.getD i []).getD j 0) ∧ (i = j → (s.tr.getD i []).getD j 0 = 0)) (hi : i < s.ho.length) : hmN s i = 0 := by
  have hb : hmB s i = true := by
    have : oddI (s.tr.getD i []) = false := List.any_eq_false.2 fun x hx => by
      obtain ⟨j, hj, rfl⟩ := List.getElem_of_mem hx
      have := (h2 j (by omega)).1
      rw [List.getD_eq_getElem?_getD, List.getElem?_eq_getElem hj] at this
      simpa using this
    rw [hmB, this, decide_eq_true ((h2 i hi).2 rfl)]; simp
  rw [hmN, hb, unl, decide_eq_true h, unl, decide_eq_true h1]; rfl
theorem ti_2 {s : Si} {i : Nat} (h : ¬ ((isT (s.ti.getD i (0, 0, 0)).1 ∧ isT (s.ti.getD i (0, 0, 0)).2.1) ∧ isN (s.ti.getD i (0, 0, 0)).2.2)) : tiN s i = 2 := by
  rw [tiN, tiF, unl, decide_eq_false h]; rfl
theorem ti_9 {s : Si} {i : Nat} (h : (isT (s.ti.getD i (0, 0, 0)).1 ∧ isT (s.ti.getD i (0, 0, 0)).2.1) ∧ isN (s.ti.getD i (0, 0, 0)).2.2) (h1 : ¬ ((s.ti.getD i (0, 0, 0)).1 ≤ (s.ti.getD i (0, 0, 0)).2.1 ∧ lastT s i < (s.ti.getD i (0, 0, 0)).1)) : tiN s i = 9 := by
  rw [tiN, tiF, unl, decide_eq_true h, unl, decide_eq_false h1]; rfl
theorem ti_0 {s : Si} {i : Nat} (h : (isT (s.ti.getD i (0, 0, 0)).1 ∧ isT (s.ti.getD i (0, 0, 0)).2.1) ∧ isN (s.ti.getD i (0, 0, 0)).2.2) (h1 : (s.ti.getD i (0, 0, 0)).1 ≤ (s.ti.getD i (0, 0, 0)).2.1 ∧ lastT s i < (s.ti.getD i (0, 0, 0)).1) : tiN s i = 0 := by
  rw [tiN, tiF, unl, decide_eq_true h, unl, decide_eq_true h1]; rfl
theorem lastT_of {s : Si} {i : Nat} {x : Int} (h : 0 ≤ x) : lastT s i < x ↔ ¬ (0 < i ∧ x ≤ (s.ti.getD (i - 1) (0, 0, 0)).2.1) := by
  rw [lastT]
  split <;> omega
theorem C74 {s : Si} : SiSm s → PFD Tryz.prog 74 [siv s] (.tup [vi .i64 (siE s).1, vi .i64 (siE s).2]) := fun hs => by
  obtain ⟨stk, st, str, sr, sho, sti⟩ := hs
  obtain ⟨q, hq⟩ : ∃ q, q = siE s := ⟨_, rfl⟩
  rw [← hq]
  rw [siE] at hq
  have c1 := C114 (l := s.tk) ⟨stk, st⟩
  refine pi2 fn74 ?_
  (repeat' first | (refine Owe.same ?_; first | refine Owe.o ?_ | refine Owe.mk ?_ ?_) | (refine Fork.same ?_; (first | refine fkD ?_ ?_ | refine fkN ?_ ?_ | refine fkM ?_ ?_) <;> intro h) | ((first | refine OpsL.same ?_ | refine OpsDL.same ?_); first | refine pK c1 rfl rfl ?_) | refine MvQ.stay ?_)
  · rw [if_neg h] at hq; subst hq; (refine rqK rfl ?_; (repeat' first | exact rfl | (refine qS ?_; constructor)))
  · rename_i h0
    have e : hoE s = 10 := by rw [hoE, unl, decide_eq_false (by omega)]; rfl
    rw [if_pos h0, if_neg (by rw [e]; decide), e] at hq
    subst hq; (refine rqK rfl ?_; (repeat' first | exact rfl | (refine qS ?_; constructor)))
  · rename_i h0 h1
    have e : hoE s = 8 := by rw [hoE, unl, decide_eq_true (show (s.ho.length : Int) > 0 by omega), unl, decide_eq_false (by omega)]; rfl
    rw [if_pos h0, if_neg (by rw [e]; decide), e] at hq
    subst hq; (refine rqK rfl ?_; (repeat' first | exact rfl | (refine qS ?_; constructor)))
  · rename_i h0 h1 h2
    have e : hoE s = 10 := by rw [hoE, unl, decide_eq_true (show (s.ho.length : Int) > 0 by omega), unl, decide_eq_true (by omega), unl, decide_eq_false (by omega)]; rfl
    rw [if_pos h0, if_neg (by rw [e]; decide), e] at hq
    subst hq; (refine rqK rfl ?_; (repeat' first | exact rfl | (refine qS ?_; constructor)))
  · rename_i h0 h1 h2
    have e : hoE s = 0 := by rw [hoE, unl, decide_eq_true (show (s.ho.length : Int) > 0 by omega), unl, decide_eq_true (by omega), unl, decide_eq_true (by omega)]; rfl
    rw [if_pos h0, if_pos e] at hq
    have hret : ∀ {k}, k < s.ho.length → (∀ i, i < k → hmN s i = 0) → ∀ {e}, hmN s k = e → ¬ e = 0 → q = ((k : Int), e) := fun hk h1 e he h2 => by
      have e := eachN_e hk h1 (by rw [he]; exact h2)
      rw [if_neg (by rw [e, he]; exact h2), e, he] at hq; exact hq
    refine Sat.lp0 (fun k : Nat => [(6, vi .i64 k), (1, .c (.rp (siD s)))]) (fun k => k ≤ s.ho.length ∧ ∀ i, i < k → hmN s i = 0) (fun k => s.ho.length - k) 0 ⟨Nat.zero_le _, fun i hi => by omega⟩ (by ((first | refine qen ?_ | refine qvs ?_ | refine qeq ?_ | refine qst ?_ | refine qv ?_ | refine qc ?_ | refine qe ?_ | refine qcs ?_ | skip); (repeat' first | exact rfl | (refine qS ?_; constructor)))) ?_
    intro k hk
    refine Fork.dec (fun hlt => ?_) (fun hlt => ?_)
    · have hlt : k < s.ho.length := by omega
      have hret := fun {e} => @hret k hlt hk.2 e
      (repeat' first | (refine Owe.same ?_; first | refine Owe.o ?_ | refine Owe.mk ?_ ?_) | (refine Fork.same ?_; (first | refine fkD ?_ ?_ | refine fkN ?_ ?_ | refine fkM ?_ ?_) <;> intro h) | ((first | refine OpsL.same ?_ | refine OpsDL.same ?_); first | refine pK C115 rfl rfl ?_) | refine MvQ.stay ?_)
      · have h : ¬ isN (s.ho.getD k 0) := by simpa using h
        have hx := hret (hm_1 h) (by decide)
        subst hx; (refine rqK rfl ?_; (repeat' first | exact rfl | (refine qS ?_; constructor)))
      · rename_i h3
        have h3 : isN (s.ho.getD k 0) := by simpa using h3
        simp only [Int.toNat_natCast] at h
        have hx := hret (hm_2 h3 h) (by decide)
        subst hx; (refine rqK rfl ?_; (repeat' first | exact rfl | (refine qS ?_; constructor)))
      · rename_i h3
        have h3 : isN (s.ho.getD k 0) := by simpa using h3
        simp only [Int.toNat_natCast] at h
        have h4 : ((s.tr.getD k []).length : Int) = s.ho.length := by simpa using h
        clear h
        refine Sat.lp0 (fun j : Nat => [(7, vi .i64 j), (6, vi .i64 k), (1, .c (.rp (siD s)))]) (fun j => j ≤ s.ho.length ∧ ∀ i, i < j → isN ((s.tr.getD k []).getD i 0) ∧ (k = i → (s.tr.getD k []).getD i 0 = 0)) (fun j => s.ho.length - j) 0 ⟨Nat.zero_le _, fun i hi => by omega⟩ (by ((first | refine qen ?_ | refine qvs ?_ | refine qeq ?_ | refine qst ?_ | refine qv ?_ | refine qc ?_ | refine qe ?_ | refine qcs ?_ | skip); (repeat' first | exact rfl | (refine qS ?_; constructor)))) ?_
        intro j hj
        refine Fork.dec (fun hlj => ?_) (fun hlj => ?_)
        · have hlj : j < s.ho.length := by omega
          have hr := fun h => hret (hm_3 h3 h4 hlj h) (by decide)
          (repeat' first | (refine Owe.same ?_; first | refine Owe.o ?_ | refine Owe.mk ?_ ?_) | (refine Fork.same ?_; (first | refine fkD ?_ ?_ | refine fkN ?_ ?_ | refine fkM ?_ ?_) <;> intro h) | ((first | refine OpsL.same ?_ | refine OpsDL.same ?_); first | refine pK C115 rfl rfl ?_) | refine MvQ.stay ?_)
          · have hx := hr (.inl h)
            subst hx
            (refine rqK rfl ?_; (repeat' first | exact rfl | (refine qS ?_; constructor)))
          · rename_i g1 g2
            have hx := hr (.inr ⟨by omega, h⟩)
            subst hx
            (refine rqK rfl ?_; (repeat' first | exact rfl | (refine qS ?_; constructor)))
          · rename_i g1 g2
            exact again0 (j + 1) ⟨hlj, succ_all hj.2 ⟨g1, fun _ => h⟩⟩ (by omega) (by ((first | refine qen ?_ | refine qvs ?_ | refine qeq ?_ | refine qst ?_ | refine qv ?_ | refine qc ?_ | refine qe ?_ | refine qcs ?_ | skip); (repeat' first | exact rfl | (refine qS ?_; constructor))))
          · rename_i g1
            exact again0 (j + 1) ⟨hlj, succ_all hj.2 ⟨g1, fun e => absurd (show (k : Int) = j by omega) h⟩⟩ (by omega) (by ((first | refine qen ?_ | refine qvs ?_ | refine qeq ?_ | refine qst ?_ | refine qv ?_ | refine qc ?_ | refine qe ?_ | refine qcs ?_ | skip); (repeat' first | exact rfl | (refine qS ?_; constructor))))
        · have : j = s.ho.length := by omega
          subst this
          (repeat' first | (refine Owe.same ?_; first | refine Owe.o ?_ | refine Owe.mk ?_ ?_) | (refine Fork.same ?_; (first | refine fkD ?_ ?_ | refine fkN ?_ ?_ | refine fkM ?_ ?_) <;> intro h) | refine MvQ.stay ?_)
          exact again0 (k + 1) ⟨hlt, succ_all hk.2 (hm_0 h3 h4 hj.2 hlt)⟩ (by omega) (by ((first | refine qen ?_ | refine qvs ?_ | refine qeq ?_ | refine qst ?_ | refine qv ?_ | refine qc ?_ | refine qe ?_ | refine qcs ?_ | skip); (repeat' first | exact rfl | (refine qS ?_; constructor))))
    · have : k = s.ho.length := by omega
      subst this
      rw [if_pos (eachN_ok.2 hk.2)] at hq
      clear hret hk hlt
      have hret : ∀ {k}, k < s.tk.length → (∀ i, i < k → plN s i = 0) → ∀ {e}, plN s k = e → ¬ e = 0 → q = ((k : Int), e) := fun hk h1 e he h2 => by
        have e := eachN_e hk h1 (by rw [he]; exact h2)
        rw [if_neg (by rw [e, he]; exact h2), e, he] at hq; exact hq
      (repeat' first | (refine Owe.same ?_; first | refine Owe.o ?_ | refine Owe.mk ?_ ?_) | (refine Fork.same ?_; (first | refine fkD ?_ ?_ | refine fkN ?_ ?_ | refine fkM ?_ ?_) <;> intro h) | refine MvQ.stay ?_)
      refine Sat.lp0 (fun k : Nat => [(8, vi .i64 k), (1, .c (.rp (siD s)))]) (fun k => k ≤ s.tk.length ∧ ∀ i, i < k → plN s i = 0) (fun k => s.tk.length - k) 0 ⟨Nat.zero_le _, fun i hi => by omega⟩ (by ((first | refine qen ?_ | refine qvs ?_ | refine qeq ?_ | refine qst ?_ | refine qv ?_ | refine qc ?_ | refine qe ?_ | refine qcs ?_ | skip); (repeat' first | exact rfl | (refine qS ?_; constructor)))) ?_
      intro k hk
      refine Fork.dec (fun hlt => ?_) (fun hlt => ?_)
      · have hlt : k < s.tk.length := by omega
        (repeat' first | (refine Owe.same ?_; first | refine Owe.o ?_ | refine Owe.mk ?_ ?_) | (refine Fork.same ?_; (first | refine fkD ?_ ?_ | refine fkN ?_ ?_ | refine fkM ?_ ?_) <;> intro h) | refine MvQ.stay ?_)
        · have h : (s.ho.length : Int) ≤ (s.tk.getD k tk0).p := h
          have hx := hret hlt hk.2 (e := 6) (by rw [plN, unl, decide_eq_false (by omega)]; rfl) (by decide)
          subst hx
          (refine rqK rfl ?_; (repeat' first | exact rfl | (refine qS ?_; constructor)))
        · have h : ¬ (s.ho.length : Int) ≤ (s.tk.getD k tk0).p := h
          exact again0 (k + 1) ⟨hlt, succ_all hk.2 (by rw [plN, unl, decide_eq_true (by omega)]; rfl)⟩ (by omega) (by ((first | refine qen ?_ | refine qvs ?_ | refine qeq ?_ | refine qst ?_ | refine qv ?_ | refine qc ?_ | refine qe ?_ | refine qcs ?_ | skip); (repeat' first | exact rfl | (refine qS ?_; constructor))))
      · have : k = s.tk.length := by omega
        subst this
        rw [if_pos (eachN_ok.2 hk.2)] at hq
        clear hret hk hlt
        (repeat' first | (refine Owe.same ?_; first | refine Owe.o ?_ | refine Owe.mk ?_ ?_) | (refine Fork.same ?_; (first | refine fkD ?_ ?_ | refine fkN ?_ ?_ | refine fkM ?_ ?_) <;> intro h) | refine MvQ.stay ?_)
        · rw [if_pos h] at hq; subst hq; (refine rqK rfl ?_; (repeat' first | exact rfl | (refine qS ?_; constructor)))
        · rw [if_neg h] at hq
          have hret : ∀ {k}, k < s.ti.length → (∀ i, i < k → tiN s i = 0) → ∀ {e}, tiN s k = e → ¬ e = 0 → q = ((k : Int), e) := fun hk h1 e he h2 => by
            have e := eachN_e hk h1 (by rw [he]; exact h2)
            rw [if_neg (by rw [e, he]; exact h2), e, he] at hq; exact hq
          refine Sat.lp0 (fun k : Nat => [(9, vi .i64 k), (1, .c (.rp (siD s)))]) (fun k => k ≤ s.ti.length ∧ ∀ i, i < k → tiN s i = 0) (fun k => s.ti.length - k) 0 ⟨Nat.zero_le _, fun i hi => by omega⟩ (by ((first | refine qen ?_ | refine qvs ?_ | refine qeq ?_ | refine qst ?_ | refine qv ?_ | refine qc ?_ | refine qe ?_ | refine qcs ?_ | skip); (repeat' first | exact rfl | (refine qS ?_; constructor)))) ?_
          intro k hk
          refine Fork.dec (fun hlt => ?_) (fun hlt => ?_)
          · have hlt : k < s.ti.length := by omega
            have hret := fun {e} => @hret k hlt hk.2 e
            have h2 := fun h => hret (ti_2 h) (by decide)
            have h9 := fun h h' => hret (ti_9 h h') (by decide)
            have h0 := fun h h' => ti_0 (s := s) (i := k) h h'
            have hla := fun h => lastT_of (s := s) (i := k) (x := (s.ti.getD k (0, 0, 0)).1) h
            (repeat' first | (refine Owe.same ?_; first | refine Owe.o ?_ | refine Owe.mk ?_ ?_) | (refine Fork.same ?_; (first | refine fkD ?_ ?_ | refine fkN ?_ ?_ | refine fkM ?_ ?_) <;> intro h) | ((first | refine OpsL.same ?_ | refine OpsDL.same ?_); first | refine pK C116 rfl rfl ?_ | refine pK C115 rfl rfl ?_) | refine MvQ.stay ?_)
            · have hx := h2 (fun hh => h hh.1.1)
              subst hx
              (refine rqK rfl ?_; (repeat' first | exact rfl | (refine qS ?_; constructor)))
            · have hx := h2 (fun hh => h hh.1.2)
              subst hx
              (refine rqK rfl ?_; (repeat' first | exact rfl | (refine qS ?_; constructor)))
            · have hx := h2 (fun hh => h hh.2)
              subst hx
              (refine rqK rfl ?_; (repeat' first | exact rfl | (refine qS ?_; constructor)))
            · have h : (s.ti.getD k (0, 0, 0)).2.1 < (s.ti.getD k (0, 0, 0)).1 := h
              have hx := h9 ⟨⟨‹_›, ‹_›⟩, ‹_›⟩ (fun hh => by omega)
              subst hx
              (refine rqK rfl ?_; (repeat' first | exact rfl | (refine qS ?_; constructor)))
            · rename_i g1 g2 g3 g4 g5
              have h : (s.ti.getD k (0, 0, 0)).1 ≤ (s.ti.getD ((k : Int) - 1).toNat (0, 0, 0)).2.1 := h
              rw [show ((k : Int) - 1).toNat = k - 1 by omega] at h
              have hx := h9 ⟨⟨g1, g2⟩, g3⟩ (fun hh => (hla g1.1).1 hh.2 ⟨by omega, h⟩)
              subst hx
              (refine rqK rfl ?_; (repeat' first | exact rfl | (refine qS ?_; constructor)))
            · rename_i g1 g2 g3 g4 g5
              have h : ¬ (s.ti.getD k (0, 0, 0)).1 ≤ (s.ti.getD ((k : Int) - 1).toNat (0, 0, 0)).2.1 := h
              have g4 : ¬ (s.ti.getD k (0, 0, 0)).2.1 < (s.ti.getD k (0, 0, 0)).1 := g4
              rw [show ((k : Int) - 1).toNat = k - 1 by omega] at h
              exact again0 (k + 1) ⟨hlt, succ_all hk.2 (h0 ⟨⟨g1, g2⟩, g3⟩ ⟨by omega, (hla g1.1).2 (fun hh => h hh.2)⟩)⟩ (by omega) (by ((first | refine qen ?_ | refine qvs ?_ | refine qeq ?_ | refine qst ?_ | refine qv ?_ | refine qc ?_ | refine qe ?_ | refine qcs ?_ | skip); (repeat' first | exact rfl | (refine qS ?_; constructor))))
            · rename_i g1 g2 g3 g4
              have g4 : ¬ (s.ti.getD k (0, 0, 0)).2.1 < (s.ti.getD k (0, 0, 0)).1 := g4
              exact again0 (k + 1) ⟨hlt, succ_all hk.2 (h0 ⟨⟨g1, g2⟩, g3⟩ ⟨by omega, (hla g1.1).2 (fun hh => by omega)⟩)⟩ (by omega) (by ((first | refine qen ?_ | refine qvs ?_ | refine qeq ?_ | refine qst ?_ | refine qv ?_ | refine qc ?_ | refine qe ?_ | refine qcs ?_ | skip); (repeat' first | exact rfl | (refine qS ?_; constructor))))
          · have : k = s.ti.length := by omega
            subst this
            rw [if_pos (eachN_ok.2 hk.2)] at hq
            have hf : ¬ (((isN s.idle ∧ isN s.swim) ∧ isN s.res) ∧ isT s.fin) → q = (0, 2) := fun h => by rw [hq, enE, unl, decide_eq_false h]; rfl
            have ht : (((isN s.idle ∧ isN s.swim) ∧ isN s.res) ∧ isT s.fin) → q = (0, 0) := fun h => by rw [hq, enE, unl, decide_eq_true h]; rfl
            clear hq
            (repeat' first | (refine Owe.same ?_; first | refine Owe.o ?_ | refine Owe.mk ?_ ?_) | (refine Fork.same ?_; (first | refine fkD ?_ ?_ | refine fkN ?_ ?_ | refine fkM ?_ ?_) <;> intro h) | ((first | refine OpsL.same ?_ | refine OpsDL.same ?_); first | refine pK C116 rfl rfl ?_ | refine pK C115 rfl rfl ?_) | refine MvQ.stay ?_)
            · have hx := hf (fun hh => h hh.1.1.1)
              subst hx
              (refine rqK rfl ?_; (repeat' first | exact rfl | (refine qS ?_; constructor)))
            · have hx := hf (fun hh => h hh.1.1.2)
              subst hx
              (refine rqK rfl ?_; (repeat' first | exact rfl | (refine qS ?_; constructor)))
            · have hx := hf (fun hh => h hh.1.2)
              subst hx
              (refine rqK rfl ?_; (repeat' first | exact rfl | (refine qS ?_; constructor)))
            · have hx := hf (fun hh => h hh.2)
              subst hx
              (refine rqK rfl ?_; (repeat' first | exact rfl | (refine qS ?_; constructor)))
            · rename_i g1 g2 g3
              have hx := ht ⟨⟨⟨g1, g2⟩, g3⟩, h⟩
              subst hx
              (refine rqK rfl ?_; (repeat' first | exact rfl | (refine qS ?_; constructor)))
end Go.Pw

set_option linter.unusedVariables false
set_option maxHeartbeats 2000000
set_option maxRecDepth 100000
namespace Go.Pw
open Go Go.Proofs
/-- moonpool/moonpoolref08.CopySite -/
def lc12m : LCode :=
  (.seq (.region [⟨some 1, .boxS (.tmp 0), none⟩, ⟨some 2, .alloc [(.slice none 0 0), (.slice none 0 0), (.slice none 0 0), (.slice none 0 0), (.int .i64 0), (.int .i64 0), (.int
    .i64 0), (.int .i64 0)], none⟩]) (.seq (.region [⟨some 5, .load true 8 (.tmp 1), none⟩, ⟨some 3, .alloc [(.slice none 0 0), (.slice none 0 0), (.slice none 0 0), (.slice none 0
    0), (.int .i64 0), (.int .i64 0), (.int .i64 0), (.int .i64 0)], none⟩, ⟨none, .store 8 (.tmp 3) (.tmp 5), none⟩]) (.seq (.region [⟨some 6, .fld 0 (.tmp 1), none⟩, ⟨some 7,
    .load false 1 (.tmp 6), none⟩, ⟨some 8, .call (.func 59) [(.tmp 7)], none⟩, ⟨some 9, .fld 0 (.tmp 3), none⟩, ⟨none, .store 1 (.tmp 9) (.tmp 8), none⟩]) (.seq (.region [⟨some 10,
    .fld 1 (.tmp 3), none⟩, ⟨none, .store 1 (.tmp 10) (.const (.slice none 0 0)), none⟩]) (.seq (.seq (.region [⟨some 4, .mv (.const (.int .i64 0)), none⟩]) (.block 0 (.loop (.seq
    (.seq (.region [⟨some 11, .mv (.tmp 4), none⟩, ⟨some 12, .fld 1 (.tmp 1), none⟩, ⟨some 13, .load false 1 (.tmp 12), none⟩, ⟨some 14, .len (.tmp 13), none⟩, ⟨some 15, .bin .lss
    (.tmp 11) (.tmp 14), none⟩]) (.cond (.tmp 15) .skip (.exit 0))) (.seq (.block 1 (.regionD [⟨some 18, .fld 1 (.tmp 3), none⟩, ⟨some 19, .load false 1 (.tmp 18), none⟩, ⟨some 20,
    .fld 1 (.tmp 1), none⟩, ⟨some 21, .load false 1 (.tmp 20), none⟩, ⟨some 22, .mv (.tmp 4), none⟩, ⟨some 23, .idx 1 (.tmp 21) (.tmp 22), none⟩, ⟨some 24, .load false 1 (.tmp 23),
    none⟩, ⟨some 25, .call (.func 14) [(.tmp 24)], none⟩, ⟨some 26, .lit false 24 1 [(.tmp 25)], none⟩, ⟨some 27, .append true 24 1 24 (.tmp 19) (.tmp 26), none⟩, ⟨some 28, .fld 1
    (.tmp 3), none⟩, ⟨none, .store 1 (.tmp 28) (.tmp 27), none⟩] [0, 1, 0, 4, 0, 28, 60, 124, 252, 511, 1023, 2047] [0, 1, 2, 3, 4, 5, 6, 7, 8, 9, 10, 11])) (.region [⟨some 16, .mv
    (.tmp 4), none⟩, ⟨some 17, .bin .add (.tmp 16) (.const (.int .i64 1)), none⟩, ⟨some 4, .mv (.tmp 17), none⟩])))))) (.seq (.region [⟨some 29, .fld 2 (.tmp 1), none⟩, ⟨some 30,
    .load false 1 (.tmp 29), none⟩, ⟨some 31, .call (.func 14) [(.tmp 30)], none⟩, ⟨some 32, .fld 2 (.tmp 3), none⟩, ⟨none, .store 1 (.tmp 32) (.tmp 31), none⟩]) (.seq (.region
    [⟨some 33, .lit false 134 3 [], none⟩, ⟨some 34, .fld 3 (.tmp 1), none⟩, ⟨some 35, .load false 1 (.tmp 34), none⟩, ⟨some 36, .append false 134 3 24 (.tmp 33) (.tmp 35), none⟩,
    ⟨some 37, .fld 3 (.tmp 3), none⟩, ⟨none, .store 1 (.tmp 37) (.tmp 36), none⟩]) (.seq (.region [⟨some 38, .load true 8 (.tmp 3), none⟩, ⟨none, .store 8 (.tmp 2) (.tmp 38),
    none⟩]) .ret))))))))
theorem low12m : lowF Tryz.prog [1, 27] Tryz.f12 = some (39, lc12m.strip, [.cell 2 true 8]) := by kernel_rfl
theorem fn12m : FnOk Tryz.prog 12 39 lc12m [.cell 2 true 8] := ⟨Tryz.call12, [1, 27], _, Tryz.func12, low12m⟩
end Go.Pw

set_option linter.unusedSimpArgs false
set_option linter.unusedVariables false
set_option maxHeartbeats 4000000
namespace Go.Pw
set_option maxRecDepth 2000
open Go Go.Proofs A1 A2 A3 A4
theorem C14 {l : List Int} : l.length ≤ 1000000 → PFD Tryz.prog 14 [.c (ints l)] (.c (ints l)) := fun h => by
  refine pi1 fn14 ?_
  (repeat' first | (refine Owe.same ?_; first | refine Owe.o ?_ | refine Owe.mk ?_ ?_) | (refine Fork.same ?_; (first | refine fkD ?_ ?_ | refine fkN ?_ ?_ | refine fkM ?_ ?_) <;> intro h) | refine MvQ.stay ?_)
  (refine rqK rfl ?_; (repeat' first | exact rfl | (refine qS ?_; constructor)))
theorem C13 {t : St8} : t.d.length ≤ 1000000 → PFD Tryz.prog 13 [stv t] (stv t) := fun h => by
  have c1 := C14 (l := t.d) h
  refine pi1 fn13 ?_
  (repeat' first | (refine Owe.same ?_; first | refine Owe.o ?_ | refine Owe.mk ?_ ?_) | (refine Fork.same ?_; (first | refine fkD ?_ ?_ | refine fkN ?_ ?_ | refine fkM ?_ ?_) <;> intro h) | ((first | refine OpsL.same ?_ | refine OpsDL.same ?_); first | refine pK c1 rfl rfl ?_) | refine MvQ.stay ?_)
  (refine rqK rfl ?_; (repeat' first | exact rfl | (refine qS ?_; constructor)))
theorem C59 {l : List Tk} : (l.length ≤ 1000000 ∧ TkSm l) → PFD Tryz.prog 59 [.c (tks l)] (.c (tks l)) := fun ⟨hl, hs⟩ => by
  refine pi1 fn59 ?_
  (repeat' first | (refine Owe.same ?_; first | refine Owe.o ?_ | refine Owe.mk ?_ ?_) | (refine Fork.same ?_; (first | refine fkD ?_ ?_ | refine fkN ?_ ?_ | refine fkM ?_ ?_) <;> intro h) | refine MvQ.stay ?_)
  refine Sat.nilS 3 119 9 (fun i => tkr (([] : List Tk).getD i tk0)) rfl ?_
  refine Sat.lp (fun k : Nat => ⟨[(4, vi .i64 k), (0, .c (tks l)), (3, .c (.ms 0 (l.take k).length))], [(0, rowv 119 9 tkr tk0 (l.take k))], 1⟩) (fun k => k ≤ l.length) (fun k => l.length - k) 0 [0] (Nat.zero_le _) ?_ ?_
  · (refine qis ?_ ?_ <;> (repeat' first | exact rfl | (refine qS ?_; constructor)))
  · intro k hk
    refine Fork.dec (fun hlt => ?_) (fun hlt => ?_)
    · have hlt : k < l.length := by omega
      have c1 := C14 (l := (l.getD k tk0).a) (hs k hlt).2
      have hl1 : (l.take k).length = k := by rw [List.length_take]; omega
      have htk : l.take (k + 1) = l.take k ++ [l.getD k tk0] := by
        rw [List.take_add_one, List.getElem?_eq_getElem hlt, List.getD_eq_getElem?_getD, List.getElem?_eq_getElem hlt]; rfl
      (repeat' first | (refine Owe.same ?_; first | refine Owe.o ?_ | refine Owe.mk ?_ ?_) | (refine Fork.same ?_; (first | refine fkD ?_ ?_ | refine fkN ?_ ?_ | refine fkM ?_ ?_) <;> intro h) | ((first | refine OpsL.same ?_ | refine OpsDL.same ?_); first | refine pK c1 rfl rfl ?_) | refine MvQ.stay ?_)
      refine again (k + 1) [2] hlt (by omega) ?_
      rw [htk]
      (refine qis ?_ ?_ <;> (repeat' first | exact rfl | (refine qS ?_; constructor)))
      · simp
      · exact ⟨l.getD k tk0, rfl, rfl⟩
    · have : k = l.length := by omega
      subst this
      (repeat' first | (refine Owe.same ?_; first | refine Owe.o ?_ | refine Owe.mk ?_ ?_) | (refine Fork.same ?_; (first | refine fkD ?_ ?_ | refine fkN ?_ ?_ | refine fkM ?_ ?_) <;> intro h) | refine MvQ.stay ?_)
      rw [List.take_length]
      refine rqF 0 _ rfl rfl rfl ?_; (repeat' first | exact rfl | (refine qS ?_; constructor))
theorem C12 {s : Si} : SiSm s → PFD Tryz.prog 12 [siv s] (siv s) := fun hs => by
  have c1 := C59 (l := s.tk) ⟨hs.tk, hs.t⟩
  have c2 := C14 (l := s.ho) hs.ho
  have htr := hs.tr
  have hti := hs.ti
  refine pi1 fn12m ?_
  (repeat' first | (refine Owe.same ?_; first | refine Owe.o ?_ | refine Owe.mk ?_ ?_) | (refine Fork.same ?_; (first | refine fkD ?_ ?_ | refine fkN ?_ ?_ | refine fkM ?_ ?_) <;> intro h) | ((first | refine OpsL.same ?_ | refine OpsDL.same ?_); first | refine pK c1 rfl rfl ?_) | refine MvQ.stay ?_)
  refine Sat.nilB 1 1 24 1 (fun i => [intsD (([] : List (List Int)).getD i [])]) rfl rfl ?_
  refine Sat.lp (fun k : Nat => ⟨[(4, vi .i64 k), (1, .c (.rp (siD s))), (2, .c (.bp 0 0)), (3, .c (.bp 1 0))], [(2, rowv 24 1 (fun l => [intsD l]) [] (s.tr.take k)), (1, .box [.d (tksD s.tk), .ms 2 (s.tr.take k).length, ints s.ho, trs s.ti, int s.idle, int s.swim, int s.res, int s.fin]), (0, .box [.d (.v (.slice none 0 0)), .d (.v (.slice none 0 0)), .d (.v (.slice none 0 0)), .d (.v (.slice none 0 0)), int 0, int 0, int 0, int 0])], 3⟩) (fun k => k ≤ s.tr.length) (fun k => s.tr.length - k) 0 [0, 1, 2] (Nat.zero_le _) ?_ ?_
  · (refine qis ?_ ?_ <;> (repeat' first | exact rfl | (refine qS ?_; constructor)))
  · intro k hk
    refine Fork.dec (fun hlt => ?_) (fun hlt => ?_)
    · have hlt : k < s.tr.length := by omega
      have c3 := C14 (l := s.tr.getD k []) (hs.r k hlt)
      have hl1 : (s.tr.take k).length = k := by rw [List.length_take]; omega
      have htk : s.tr.take (k + 1) = s.tr.take k ++ [s.tr.getD k []] := by
        rw [List.take_add_one, List.getElem?_eq_getElem hlt, List.getD_eq_getElem?_getD, List.getElem?_eq_getElem hlt]; rfl
      (repeat' first | (refine Owe.same ?_; first | refine Owe.o ?_ | refine Owe.mk ?_ ?_) | (refine Fork.same ?_; (first | refine fkD ?_ ?_ | refine fkN ?_ ?_ | refine fkM ?_ ?_) <;> intro h) | ((first | refine OpsL.same ?_ | refine OpsDL.same ?_); first | refine pK c3 rfl rfl ?_) | refine MvQ.stay ?_)
      refine again (k + 1) [0, 1, 11] hlt (by omega) ?_
      rw [htk]
      (refine qis ?_ ?_ <;> (repeat' first | exact rfl | (refine qS ?_; constructor)))
      · exact ⟨s.tr.getD k [], rfl, rfl⟩
      · simp
    · have : k = s.tr.length := by omega
      subst this
      rw [List.take_length]
      (repeat' first | (refine Owe.same ?_; first | refine Owe.o ?_ | refine Owe.mk ?_ ?_) | (refine Fork.same ?_; (first | refine fkD ?_ ?_ | refine fkN ?_ ?_ | refine fkM ?_ ?_) <;> intro h))
      refine MvQ.frzX 1 1 2 rfl rfl rfl (Nat.le_refl _) ?_
      (repeat' first | (refine Owe.same ?_; first | refine Owe.o ?_ | refine Owe.mk ?_ ?_) | (refine Fork.same ?_; (first | refine fkD ?_ ?_ | refine fkN ?_ ?_ | refine fkM ?_ ?_) <;> intro h) | ((first | refine OpsL.same ?_ | refine OpsDL.same ?_); first | refine pK c2 rfl rfl ?_) | refine MvQ.stay ?_)
      (refine rqK rfl ?_; (repeat' first | exact rfl | (refine qS ?_; constructor)))
end Go.Pw

set_option linter.unusedSimpArgs false
set_option linter.unusedVariables false
set_option maxHeartbeats 4000000
namespace Go.Pw
set_option maxRecDepth 2000
open Go Go.Proofs A1 A2 A3 A4
/-- The reference's error of a state of a site. -/
def rsE (s : Si) (t : St8) : Int × Int := if 0 ≤ t.p ∧ t.p ≤ (s.ho.length : Int) - 1 then (if (isT t.t ∧ 0 ≤ t.w ∧ t.w ≤ 100000000) ∧ isN t.o then ascE t.d s.tk.length else (0, 2)) else (0, 6)
theorem rsE_eq {s : Si} {t : St8} (h : (siE s).2 = 0) : stE s t = rsE s t := by
  have e : stF s t = if 0 ≤ t.p ∧ t.p ≤ (s.ho.length : Int) - 1 then (if (isT t.t ∧ 0 ≤ t.w ∧ t.w ≤ 100000000) ∧ isN t.o then 0 else 2) else 6 := by
    rw [stF, h]
    by_cases h1 : 0 ≤ t.p ∧ t.p ≤ (s.ho.length : Int) - 1
    · rw [if_pos h1, unl, decide_eq_true h1]
      by_cases h2 : (isT t.t ∧ 0 ≤ t.w ∧ t.w ≤ 100000000) ∧ isN t.o
      · rw [if_pos h2, stN, unl, decide_eq_true h2]; rfl
      · rw [if_neg h2, stN, unl, decide_eq_false h2]; rfl
    · rw [if_neg h1, unl, decide_eq_false h1]; rfl
  rw [stE, e, rsE]
  by_cases h1 : 0 ≤ t.p ∧ t.p ≤ (s.ho.length : Int) - 1
  · by_cases h2 : (isT t.t ∧ 0 ≤ t.w ∧ t.w ≤ 100000000) ∧ isN t.o
    · simp only [if_pos h1, if_pos h2]; rfl
    · simp only [if_pos h1, if_neg h2]; rfl
  · simp only [if_neg h1]; rfl
theorem C102 {s : Si} {t : St8} : (SiSm s ∧ t.d.length ≤ 1000000) → PFD Tryz.prog 102 [siv s, stv t] (.tup [vi .i64 (rsE s t).1, vi .i64 (rsE s t).2]) := fun ⟨hs, ht⟩ => by
  have hho := hs.ho
  have htk := hs.tk
  obtain ⟨q, hq⟩ : ∃ q, q = rsE s t := ⟨_, rfl⟩
  rw [← hq]
  rw [rsE] at hq
  refine pi2 fn102 ?_
  (repeat' first | (refine Owe.same ?_; first | refine Owe.o ?_ | refine Owe.mk ?_ ?_) | (refine Fork.same ?_; (first | refine fkD ?_ ?_ | refine fkN ?_ ?_ | refine fkM ?_ ?_) <;> intro h) | ((first | refine OpsL.same ?_ | refine OpsDL.same ?_); first | refine pK C75 rfl rfl ?_ | refine pK C116 rfl rfl ?_ | refine pK C115 rfl rfl ?_) | refine MvQ.stay ?_)
  · rw [if_neg h] at hq; subst hq; (refine rqK rfl ?_; (repeat' first | exact rfl | (refine qS ?_; constructor)))
  · rename_i h1
    rw [if_pos h1, if_neg (fun hh => h hh.1.1)] at hq; subst hq; (refine rqK rfl ?_; (repeat' first | exact rfl | (refine qS ?_; constructor)))
  · rename_i h1 h2
    rw [if_pos h1, if_neg (fun hh => h hh.1.2)] at hq; subst hq; (refine rqK rfl ?_; (repeat' first | exact rfl | (refine qS ?_; constructor)))
  · rename_i h1 h2 h3
    rw [if_pos h1, if_neg (fun hh => h hh.2)] at hq; subst hq; (refine rqK rfl ?_; (repeat' first | exact rfl | (refine qS ?_; constructor)))
  · rename_i h1 h2 h3
    rw [if_pos h1, if_pos ⟨⟨h2, h3⟩, h⟩] at hq
    clear h h1 h2 h3
    (repeat' first | (refine Owe.same ?_; first | refine Owe.o ?_ | refine Owe.mk ?_ ?_) | (refine Fork.same ?_; (first | refine fkD ?_ ?_ | refine fkN ?_ ?_ | refine fkM ?_ ?_) <;> intro h) | refine MvQ.stay ?_)
    refine Sat.lp0 (fun k : Nat => [(6, vi .i64 k), (2, .c (.rp (siD s))), (3, .c (.rp (stD t)))]) (fun k => k ≤ t.d.length ∧ ∀ i, i < k → ascN t.d s.tk.length i = 0) (fun k => t.d.length - k) 0 ⟨Nat.zero_le _, fun i hi => by omega⟩ (by ((first | refine qen ?_ | refine qvs ?_ | refine qeq ?_ | refine qst ?_ | refine qv ?_ | refine qc ?_ | refine qe ?_ | refine qcs ?_ | skip); (repeat' first | exact rfl | (refine qS ?_; constructor)))) ?_
    intro k hk
    refine Fork.dec (fun hlt => ?_) (fun hlt => ?_)
    · have hlt : k < t.d.length := by omega
      have hr : ∀ {e}, ascN t.d s.tk.length k = e → ¬ e = 0 → q = ((k : Int), e) := fun he h2 => by
        rw [hq, ascE, eachN_e hlt hk.2 (by rw [he]; exact h2), he]
      have c1 := C26 (s := s) (n := t.d.getD k 0) htk
      (repeat' first | (refine Owe.same ?_; first | refine Owe.o ?_ | refine Owe.mk ?_ ?_) | (refine Fork.same ?_; (first | refine fkD ?_ ?_ | refine fkN ?_ ?_ | refine fkM ?_ ?_) <;> intro h) | ((first | refine OpsL.same ?_ | refine OpsDL.same ?_); first | refine pK c1 rfl rfl ?_) | refine MvQ.stay ?_)
      · have hx := hr (ascN_6 h) (by decide)
        subst hx
        (refine rqK rfl ?_; (repeat' first | exact rfl | (refine qS ?_; constructor)))
      · have hx := hr (ascN_9 ‹_› (by omega) (by rw [show k - 1 = ((k : Int) - 1).toNat by omega]; exact h)) (by decide)
        subst hx
        (refine rqK rfl ?_; (repeat' first | exact rfl | (refine qS ?_; constructor)))
      · have h0 := ascN_0 (l := t.d) (b := s.tk.length) (j := k) ‹_› (fun _ => by
          have h : ¬ t.d.getD k 0 ≤ t.d.getD ((k : Int) - 1).toNat 0 := h
          rw [show k - 1 = ((k : Int) - 1).toNat by omega]; omega)
        exact again0 (k + 1) ⟨hlt, succ_all hk.2 h0⟩ (by omega) (by ((first | refine qen ?_ | refine qvs ?_ | refine qeq ?_ | refine qst ?_ | refine qv ?_ | refine qc ?_ | refine qe ?_ | refine qcs ?_ | skip); (repeat' first | exact rfl | (refine qS ?_; constructor))))
      · have h0 := ascN_0 (l := t.d) (b := s.tk.length) (j := k) ‹_› (fun hh => by omega)
        exact again0 (k + 1) ⟨hlt, succ_all hk.2 h0⟩ (by omega) (by ((first | refine qen ?_ | refine qvs ?_ | refine qeq ?_ | refine qst ?_ | refine qv ?_ | refine qc ?_ | refine qe ?_ | refine qcs ?_ | skip); (repeat' first | exact rfl | (refine qS ?_; constructor))))
    · have : k = t.d.length := by omega
      subst this
      rw [ascE, eachN_z hk.2] at hq
      subst hq
      (repeat' first | (refine Owe.same ?_; first | refine Owe.o ?_ | refine Owe.mk ?_ ?_) | (refine Fork.same ?_; (first | refine fkD ?_ ?_ | refine fkN ?_ ?_ | refine fkM ?_ ?_) <;> intro h) | refine MvQ.stay ?_)
      (refine rqK rfl ?_; (repeat' first | exact rfl | (refine qS ?_; constructor)))
theorem C25 {s : Si} : SiSm s → PFD Tryz.prog 25 [siv s] (vi .i64 (siE s).2) := fun hs => by
  have c1 := C74 hs
  refine pi1 fn25 ?_
  (repeat' first | (refine Owe.same ?_; first | refine Owe.o ?_ | refine Owe.mk ?_ ?_) | (refine Fork.same ?_; (first | refine fkD ?_ ?_ | refine fkN ?_ ?_ | refine fkM ?_ ?_) <;> intro h) | ((first | refine OpsL.same ?_ | refine OpsDL.same ?_); first | refine pK c1 rfl rfl ?_) | refine MvQ.stay ?_)
  (refine rqK rfl ?_; (repeat' first | exact rfl | (refine qS ?_; constructor)))
theorem C63 {s : Si} {t : St8} : (SiSm s ∧ t.d.length ≤ 1000000) → PFD Tryz.prog 63 [siv s, stv t] (vi .i64 (rsE s t).2) := fun hs => by
  have c1 := C102 hs
  refine pi1 fn63 ?_
  (repeat' first | (refine Owe.same ?_; first | refine Owe.o ?_ | refine Owe.mk ?_ ?_) | (refine Fork.same ?_; (first | refine fkD ?_ ?_ | refine fkN ?_ ?_ | refine fkM ?_ ?_) <;> intro h) | ((first | refine OpsL.same ?_ | refine OpsDL.same ?_); first | refine pK c1 rfl rfl ?_) | refine MvQ.stay ?_)
  (refine rqK rfl ?_; (repeat' first | exact rfl | (refine qS ?_; constructor)))
theorem onE_of {s : Si} {t : St8} (h : ¬ (siE s).2 = 0) : onE s t = (siE s).2 := by rw [onE, fstE, if_neg h]
theorem onE_eq {s : Si} {t : St8} (h : (siE s).2 = 0) : onE s t = (rsE s t).2 := by
  rw [onE, fstE, if_pos h, fstE, rsE_eq h]
  split
  · rename_i h; rw [h]; rfl
  · rfl
theorem C16 {s : Si} {t : St8} : (SiSm s ∧ t.d.length ≤ 1000000) → PFD Tryz.prog 16 [siv s, stv t] (vi .i64 (onE s t)) := fun hs => by
  have c1 := C25 hs.1
  have c2 := C63 hs
  obtain ⟨q, hq⟩ : ∃ q, q = onE s t := ⟨_, rfl⟩
  rw [← hq]
  refine pi1 fn16 ?_
  (repeat' first | (refine Owe.same ?_; first | refine Owe.o ?_ | refine Owe.mk ?_ ?_) | (refine Fork.same ?_; (first | refine fkD ?_ ?_ | refine fkN ?_ ?_ | refine fkM ?_ ?_) <;> intro h) | ((first | refine OpsL.same ?_ | refine OpsDL.same ?_); first | refine pK c1 rfl rfl ?_ | refine pK c2 rfl rfl ?_) | refine MvQ.stay ?_)
  · rw [onE_of h] at hq; subst hq; (refine rqK rfl ?_; (repeat' first | exact rfl | (refine qS ?_; constructor)))
  · rw [onE_eq h] at hq; subst hq; (refine rqK rfl ?_; (repeat' first | exact rfl | (refine qS ?_; constructor)))
/-- Equal states. -/
abbrev sameB (a b : St8) : Bool := decide (a.p = b.p ∧ a.t = b.t ∧ a.w = b.w ∧ a.o = b.o ∧ a.d = b.d)
theorem C35 {a b : St8} : a.d.length < 4611686018427387904 → PFD Tryz.prog 35 [stv a, stv b] (vbl (sameB a b)) := fun h => by
  have c1 := C18 (l := a.d) (m := b.d) h
  refine pi1 fn35 ?_
  (repeat' first | (refine Owe.same ?_; first | refine Owe.o ?_ | refine Owe.mk ?_ ?_) | (refine Fork.same ?_; (first | refine fkD ?_ ?_ | refine fkN ?_ ?_ | refine fkM ?_ ?_) <;> intro h) | ((first | refine OpsL.same ?_ | refine OpsDL.same ?_); first | refine pK c1 rfl rfl ?_) | refine MvQ.stay ?_)
  all_goals ((refine rqK rfl ?_; (repeat' first | exact rfl | (refine qS ?_; constructor))); simp only [sameB, decide_eq_decide, decide_eq_false_iff_not, decide_eq_true_eq]; simp_all)
end Go.Pw

set_option linter.unusedSimpArgs false
set_option linter.unusedVariables false
set_option maxHeartbeats 4000000
namespace Go.Pw
set_option maxRecDepth 2000
open Go Go.Proofs A1 A2 A3 A4
theorem DI.take {l : List Int} {k : Nat} {f : Nat → List D} (hk : k ≤ l.length) (hf : ∀ i, i < k → f i = r1 (l.getD i 0)) : DI (.sl 1 k f) (intsD (l.take k)) := by
  have e : (l.take k).length = k := by rw [List.length_take]; omega
  show DI _ (.sl 1 (l.take k).length _)
  rw [e]
  refine DI.sl fun i hi => ?_
  have e2 : (l.take k).getD i 0 = l.getD i 0 := by simp only [List.getD_eq_getElem?_getD, List.getElem?_take, hi, if_true]
  rw [hf i hi, e2]
  exact DIs.refl _
theorem DI.drop {l : List Int} {k m : Nat} {f : Nat → List D} (hm : m = l.length - k) (hf : ∀ i, i < m → f i = r1 (l.getD (k + i) 0)) : DI (.sl 1 m f) (intsD (l.drop k)) := by
  subst hm
  show DI _ (.sl 1 (l.drop k).length _)
  rw [List.length_drop]
  refine DI.sl fun i hi => ?_
  have e2 : (l.drop k).getD i 0 = l.getD (k + i) 0 := by simp only [List.getD_eq_getElem?_getD, List.getElem?_drop]
  rw [hf i hi, e2]
  exact DIs.refl _
/-- The error of numbers of tasks. -/
abbrev nuN (s : Si) (l : List Int) (i : Nat) : Int := fstE [unl (0 ≤ l.getD i 0 ∧ l.getD i 0 ≤ (s.tk.length : Int) - 1) 6, unb (!decide (l.getD i 0 ∈ l.take i)) 23]
def nuE (s : Si) (l : List Int) : Int := (eachN (nuN s l) 0 l.length).2
theorem nuE_ok {s : Si} {l : List Int} : nuE s l = 0 ↔ tkNs s l ∧ l.Nodup := by
  rw [nuE, eachN_ok]
  constructor
  · intro h
    have h1 : ∀ i, i < l.length → (0 ≤ l.getD i 0 ∧ l.getD i 0 ≤ (s.tk.length : Int) - 1) ∧ l.getD i 0 ∉ l.take i := fun i hi => by
      have := h i hi
      rw [nuN, fst2, unl0 (by decide), unb_ok (by decide)] at this
      exact ⟨this.1, by simpa using this.2⟩
    refine ⟨fun i hi => by have := (h1 i hi).1; omega, ?_⟩
    rw [List.nodup_iff_pairwise_ne, List.pairwise_iff_getElem]
    intro i j hi hj hij e
    refine (h1 j hj).2 ?_
    rw [List.getD_eq_getElem?_getD, List.getElem?_eq_getElem hj]
    show l[j] ∈ _
    rw [← e]
    have h2 : (l.take j)[i]? = some l[i] := by rw [List.getElem?_take, if_pos hij, List.getElem?_eq_getElem hi]
    exact List.mem_of_getElem? h2
  · rintro ⟨h1, h2⟩ i hi
    rw [nuN, fst2, unl0 (by decide), unb_ok (by decide)]
    refine ⟨by have := h1 i hi; omega, ?_⟩
    rw [Bool.not_eq_true', decide_eq_false_iff_not]
    intro hm
    obtain ⟨j, hj, e⟩ := List.getElem_of_mem hm
    rw [List.length_take] at hj
    rw [List.getElem_take, List.getD_eq_getElem?_getD, List.getElem?_eq_getElem hi] at e
    rw [List.nodup_iff_pairwise_ne, List.pairwise_iff_getElem] at h2
    exact h2 j i (by omega) hi (by omega) e
/-- Some number is done. -/
abbrev dnB (t : St8) (l : List Int) : Bool := l.any fun n => decide (n ∈ t.d)
theorem SetOk.of {s : Si} {t : St8} {l : List Int} (h : nuE s l = 0) (h1 : dnB t l = false) : SetOk s t l where
  n := (nuE_ok.1 h).1
  u := (nuE_ok.1 h).2
  d := fun x hx => by have := List.any_eq_false.1 h1 x hx; simpa using this
abbrev tgB (s : Si) (t : St8) (l : List Int) : Bool := togB s l.length t l
end Go.Pw

set_option linter.unusedSimpArgs false
set_option linter.unusedVariables false
set_option maxHeartbeats 4000000
namespace Go.Pw
set_option maxRecDepth 2000
open Go Go.Proofs A1 A2 A3 A4
theorem bit_i64 {b i : Nat} (hb : b < 2 ^ 62) (hi : i < 64) : decide (IntKind.i64.wrap ((BitVec.ofInt IntKind.i64.bits ((b : Int).fdiv (2 ^ min (Int.toNat (i : Int)) IntKind.i64.bits)) &&& BitVec.ofInt IntKind.i64.bits 1).toNat : Nat) = 1) = b.testBit i := by
  have hbits : IntKind.i64.bits = 64 := rfl
  have e1 : (b : Int).fdiv (2 ^ min (Int.toNat (i : Int)) IntKind.i64.bits) = ((b / 2 ^ i : Nat) : Int) := by
    rw [hbits, Int.toNat_natCast, Nat.min_eq_left (by omega), Int.fdiv_eq_ediv_of_nonneg _ (Int.pow_nonneg (by decide))]
    norm_cast
  rw [e1, Nat.testBit_eq_decide_div_mod_eq]
  have hlt : b / 2 ^ i < 2 ^ 62 := by
    have := Nat.div_le_self b (2 ^ i)
    omega
  generalize b / 2 ^ i = q at hlt ⊢
  have e2 : (BitVec.ofInt IntKind.i64.bits (q : Int) &&& BitVec.ofInt IntKind.i64.bits 1).toNat = q % 2 := by
    rw [BitVec.toNat_and]
    have f1 : (BitVec.ofInt IntKind.i64.bits (q : Int)).toNat = q := by
      rw [BitVec.toNat_ofInt, hbits]; omega
    have f2 : (BitVec.ofInt IntKind.i64.bits 1).toNat = 1 := rfl
    rw [f1, f2, Nat.and_one_is_mod]
  rw [e2]
  have e3 : IntKind.i64.wrap ((q % 2 : Nat) : Int) = ((q % 2 : Nat) : Int) := by
    rcases (show q % 2 = 0 ∨ q % 2 = 1 by omega) with h | h <;> rw [h] <;> rfl
  rw [e3, Bool.eq_iff_iff, decide_eq_true_eq, decide_eq_true_eq]
  omega
theorem shl_i64 {n : Nat} (h : n ≤ 20) : IntKind.i64.wrap (1 * 2 ^ min (Int.toNat (n : Int)) IntKind.i64.bits) = ((2 ^ n : Nat) : Int) := by
  have : n = 0 ∨ n = 1 ∨ n = 2 ∨ n = 3 ∨ n = 4 ∨ n = 5 ∨ n = 6 ∨ n = 7 ∨ n = 8 ∨ n = 9 ∨ n = 10 ∨ n = 11 ∨ n = 12 ∨ n = 13 ∨ n = 14 ∨ n = 15 ∨ n = 16 ∨ n = 17 ∨ n = 18 ∨ n = 19 ∨ n = 20 := by omega
  rcases this with h | h | h | h | h | h | h | h | h | h | h | h | h | h | h | h | h | h | h | h | h <;> subst h <;> decide
theorem fltL_mem {p : Nat → Bool} {n k : Nat} : (k : Int) ∈ fltL p n ↔ k < n ∧ p k = true := by
  rw [fltL, List.mem_map]
  constructor
  · rintro ⟨i, hi, he⟩
    have : i = k := by omega
    subst this
    exact ⟨List.mem_range.1 (List.mem_filter.1 hi).1, (List.mem_filter.1 hi).2⟩
  · rintro ⟨h1, h2⟩
    exact ⟨k, List.mem_filter.2 ⟨List.mem_range.2 h1, h2⟩, rfl⟩
theorem fltL_asc {p : Nat → Bool} {n : Nat} : (fltL p n).Pairwise (· < ·) := by
  rw [fltL, List.pairwise_map]
  refine List.Pairwise.filter _ ?_
  exact List.pairwise_lt_range.imp fun h => Int.ofNat_lt.2 h
/-- The numbers of a set, as bits say. -/
abbrev subL (n b : Nat) : List Int := fltL (fun i => b.testBit i) n
theorem subL_mem {n b : Nat} {x : Int} (h : x ∈ subL n b) : 0 ≤ x ∧ x < n := by
  simp only [subL, fltL, List.mem_map, List.mem_filter, List.mem_range] at h
  obtain ⟨i, ⟨h1, _⟩, rfl⟩ := h
  omega
theorem subL_nd {n b : Nat} : (subL n b).Nodup := by
  rw [List.nodup_iff_pairwise_ne]
  exact fltL_asc.imp fun h => by omega
/-- The slice of the best one, or none. -/
abbrev nilO : Option (List Int) → V
  | none => .c (.d (.v (.slice none 0 0)))
  | some l => .c (ints l)
abbrev smO (o : Option (List Int)) (l : List Int) : Bool := match o with
  | none => true
  | some m => decide (fstE [cmpI l.length m.length, cmpL l m] < 0)
/-- A set of tasks that do not go together. -/
abbrev clB (s : Si) (t : St8) (l : List Int) : Bool := !dnB t l && !tgB s t l
def clK (s : Si) (t : St8) (n : Nat) : Nat → Option (List Int)
  | 0 => none
  | b + 1 => if smO (clK s t n b) (subL n b) = true ∧ clB s t (subL n b) = true then some (subL n b) else clK s t n b
abbrev clO (s : Si) (t : St8) : Option (List Int) := clK s t s.tk.length (2 ^ s.tk.length)
def clE (s : Si) (t : St8) : List Int × Int := if onE s t = 0 then (match clO s t with | none => ([], 12) | some l => (l, 0)) else ([], onE s t)
theorem SetOk.sub {s : Si} {t : St8} {b : Nat} (h : dnB t (subL s.tk.length b) = false) : SetOk s t (subL s.tk.length b) where
  n := fun i hi => subL_mem (getD_mem 0 hi)
  u := subL_nd
  d := fun x hx => by have := List.any_eq_false.1 h x hx; simpa using this
theorem clK_len {s : Si} {t : St8} {n : Nat} : ∀ {b : Nat} {l : List Int}, clK s t n b = some l → l.length ≤ n ∧ 0 < l.length
  | 0, l, h => by cases h
  | b + 1, l, h => by
    rw [clK] at h
    split at h
    · rename_i hh
      cases h
      refine ⟨fltL_len _ _, ?_⟩
      rcases Nat.eq_zero_or_pos (subL n b).length with h0 | h0
      · have e := List.eq_nil_of_length_eq_zero h0
        rw [e] at hh
        have := hh.2
        simp [clB, tgB, togB] at this
      · exact h0
    · exact clK_len h
theorem C15 {s : Si} {t : St8} : (SiSm s ∧ t.d.length ≤ 1000000) → PFD Tryz.prog 15 [siv s, stv t] (.tup [.c (ints (clE s t).1), vi .i64 (clE s t).2]) := fun ⟨hs, ht⟩ => by
  have c1 := C52 (s := s) (t := t) ⟨hs, ht⟩
  obtain ⟨q, hq⟩ : ∃ q, q = clE s t := ⟨_, rfl⟩
  rw [← hq]
  rw [clE] at hq
  by_cases h0 : onE s t = 0
  · rw [if_pos h0, clO] at hq
    rw [h0] at c1
    have hO := OnOk.of h0
    have hn := hO.ok.n
    have hshl := shl_i64 (n := s.tk.length) (by omega)
    have hpow : 2 ^ s.tk.length ≤ 2 ^ 6 := Nat.pow_le_pow_right (by decide) hn
    have hpos : 1 ≤ 2 ^ s.tk.length := Nat.one_le_two_pow
    obtain ⟨N, hN⟩ : ∃ N, N = 2 ^ s.tk.length := ⟨_, rfl⟩
    rw [← hN] at hshl hpow hq hpos
    have hst : none = clK s t s.tk.length 1 := by
      have e : subL s.tk.length 0 = [] := by
        rw [subL, fltL, List.map_eq_nil_iff, List.filter_eq_nil_iff]; simp
      rw [clK, clK, e, if_neg]
      rintro ⟨_, h⟩
      simp [clB, tgB, togB] at h
    refine pi2 fn15 ?_
    (repeat' first | (refine Owe.same ?_; first | refine Owe.o ?_ | refine Owe.mk ?_ ?_) | (refine Fork.same ?_; (first | refine fkY ?_ | refine fkF ?_ | ((first | refine fkD ?_ ?_ | refine fkN ?_ ?_ | refine fkM ?_ ?_) <;> intro h))) | ((first | refine OpsL.same ?_ | refine OpsDL.same ?_); first | refine oK c1 rfl rfl rfl ?_) | refine MvQ.stay ?_)
    (repeat' first | (refine Owe.same ?_; first | refine Owe.o ?_ | refine Owe.mk ?_ ?_) | (refine Fork.same ?_; (first | refine fkD ?_ ?_ | refine fkN ?_ ?_ | refine fkM ?_ ?_) <;> intro h) | refine MvQ.stay ?_)
    refine Sat.lp (fun ((b, o) : Nat × Option (List Int)) => ⟨[(9, vi .i64 b), (8, nilO o), (2, .c (.rp (siD s))), (6, .c (.bp 0 0))], [(0, .box (diC s t))], 1⟩) (fun ((b, o) : Nat × Option (List Int)) => b ≤ N ∧ o = clK s t s.tk.length b) (fun ((b, _) : Nat × Option (List Int)) => N - b) (1, none) [0] ⟨hpos, hst⟩ ?_ ?_
    · (refine qis ?_ ?_ <;> (repeat' first | exact rfl | (refine qS ?_; constructor)))
    · intro ⟨b, o⟩ ⟨hb, ho⟩
      rcases o with _ | m
      · rcases Nat.lt_or_eq_of_le hb with hbl | rfl
        rotate_left
        · rw [← ho] at hq
          (repeat' first | (refine Owe.same ?_; first | refine Owe.o ?_ | refine Owe.mk ?_ ?_) | (refine Fork.same ?_; (first | refine fkY ?_ | refine fkF ?_ | ((first | refine fkD ?_ ?_ | refine fkN ?_ ?_ | refine fkM ?_ ?_) <;> intro h))) | ((first | refine OpsL.same ?_ | refine OpsDL.same ?_); first | refine oK C55 rfl rfl rfl ?_) | refine MvQ.stay ?_)
          subst hq
          (refine rqK rfl ?_; (repeat' first | exact rfl | (refine qS ?_; constructor)))
        · (repeat' first | (refine Owe.same ?_; first | refine Owe.o ?_ | refine Owe.mk ?_ ?_) | (refine Fork.same ?_; (first | refine fkD ?_ ?_ | refine fkN ?_ ?_ | refine fkM ?_ ?_) <;> intro h) | refine MvQ.stay ?_)
          rotate_left
          · rw [hshl] at h; omega
          · refine Sat.nilS 10 3 1 (fun i => r1 (([] : List Int).getD i 0)) rfl ?_
            refine Sat.lp (fun i : Nat => ⟨[(33, vi .i64 i), (32, vi .i64 s.tk.length), (10, .c (.ms 1 (fltL (fun i => b.testBit i) i).length)), (9, vi .i64 b), (8, nilO none), (2, .c (.rp (siD s))), (6, .c (.bp 0 0))], [(1, rowv 3 1 r1 0 (fltL (fun i => b.testBit i) i)), (0, .box (diC s t))], 2⟩)
              (fun i => i ≤ s.tk.length) (fun i => s.tk.length - i) 0 [0, 1] (Nat.zero_le _) ?_ ?_
            · (refine qis ?_ ?_ <;> (repeat' first | exact rfl | (refine qS ?_; constructor)))
            · intro i hi
              have hfl := fltL_len (fun i => b.testBit i) i
              have hfs := fltL_succ (fun i => b.testBit i) i
              refine Fork.dec (fun hli => ?_) (fun hli => ?_)
              · have hli : i < s.tk.length := by omega
                have htb := bit_i64 (b := b) (i := i) (by omega) (by omega)
                (repeat' first | (refine Owe.same ?_; first | refine Owe.o ?_ | refine Owe.mk ?_ ?_) | (refine Fork.same ?_; (first | refine fkD ?_ ?_ | refine fkN ?_ ?_ | refine fkM ?_ ?_) <;> intro h) | refine MvQ.stay ?_)
                · have h : decide _ = true := decide_eq_true h
                  rw [htb] at h
                  rw [if_pos h] at hfs
                  refine again (i + 1) [0, 2] hli (by omega) ?_
                  (refine qis ?_ ?_ <;> (repeat' first | exact rfl | (refine qS ?_; constructor)))
                  · rw [hfs]; simp
                  · exact hfs
                · have h : decide _ = false := decide_eq_false h
                  rw [htb] at h
                  rw [if_neg (by rw [h]; decide)] at hfs
                  refine again (i + 1) [0, 1] hli (by omega) ?_
                  (refine qis ?_ ?_ <;> (repeat' first | exact rfl | (refine qS ?_; constructor)))
                  · rw [hfs]
                  · rw [hfs]
              · have : i = s.tk.length := by omega
                subst this
                have hsl : (subL s.tk.length b).length ≤ s.tk.length := hfl
                have c3 := C56b (g := 57) (ds := diD s t) (l := subL s.tk.length b) (f := fun i => decide ((subL s.tk.length b).getD i 0 ∈ t.d)) (fun i hi => C57 ht) (by omega)
                rw [anyN_mem (p := fun n => decide (n ∈ t.d))] at c3
                change PFD Tryz.prog 56 _ (vbl (dnB t (subL s.tk.length b))) at c3
                have c4 := fun hd => C58 hs.t (subL s.tk.length b).length hO (SetOk.sub (b := b) hd) (Nat.le_refl _)
                change dnB t (subL s.tk.length b) = false → PFD Tryz.prog 58 _ (vbl (tgB s t (subL s.tk.length b))) at c4
                have hnx : clK s t s.tk.length (b + 1) = if smO (clK s t s.tk.length b) (subL s.tk.length b) = true ∧ clB s t (subL s.tk.length b) = true then some (subL s.tk.length b) else clK s t s.tk.length b := rfl
                rw [← ho] at hnx
                (repeat' first | (refine Owe.same ?_; first | refine Owe.o ?_ | refine Owe.mk ?_ ?_) | (refine Fork.same ?_; (first | refine fkD ?_ ?_ | refine fkN ?_ ?_ | refine fkM ?_ ?_) <;> intro h) | refine MvQ.stay ?_)
                refine OpsL.frz 10 _ rfl rfl (Nat.le_refl _) ?_
                refine OpsL.frz 63 _ rfl rfl (Nat.le_refl _) ?_
                rcases hd : dnB t (subL s.tk.length b) with _ | _
                · rw [hd] at c3
                  have c4 := c4 hd
                  rw [clB, hd] at hnx
                  rcases hg : tgB s t (subL s.tk.length b) with _ | _
                  · rw [hg] at c4 hnx
                    rw [if_pos ⟨rfl, rfl⟩] at hnx
                    (repeat' first | (refine Owe.same ?_; first | refine Owe.o ?_ | refine Owe.mk ?_ ?_) | (refine Fork.same ?_; (first | refine fkY ?_ | refine fkF ?_ | ((first | refine fkD ?_ ?_ | refine fkN ?_ ?_ | refine fkM ?_ ?_) <;> intro h))) | ((first | refine OpsL.same ?_ | refine OpsDL.same ?_); first | refine oK c3 rfl rfl rfl ?_) | refine MvQ.stay ?_)
                    (repeat' first | (refine Owe.same ?_; first | refine Owe.o ?_ | refine Owe.mk ?_ ?_) | (refine Fork.same ?_; (first | refine fkY ?_ | refine fkF ?_ | ((first | refine fkD ?_ ?_ | refine fkN ?_ ?_ | refine fkM ?_ ?_) <;> intro h))) | ((first | refine OpsL.same ?_ | refine OpsDL.same ?_); first | refine oK c4 rfl rfl rfl ?_) | refine MvQ.stay ?_)
                    refine again (b + 1, some (subL s.tk.length b)) [0] ⟨hbl, hnx.symm⟩ (by show N - (b + 1) < N - b; omega) ?_
                    (refine qis ?_ ?_ <;> (repeat' first | exact rfl | (refine qS ?_; constructor)))
                  · rw [hg] at c4 hnx
                    rw [if_neg (by simp)] at hnx
                    (repeat' first | (refine Owe.same ?_; first | refine Owe.o ?_ | refine Owe.mk ?_ ?_) | (refine Fork.same ?_; (first | refine fkY ?_ | refine fkF ?_ | ((first | refine fkD ?_ ?_ | refine fkN ?_ ?_ | refine fkM ?_ ?_) <;> intro h))) | ((first | refine OpsL.same ?_ | refine OpsDL.same ?_); first | refine oK c3 rfl rfl rfl ?_) | refine MvQ.stay ?_)
                    (repeat' first | (refine Owe.same ?_; first | refine Owe.o ?_ | refine Owe.mk ?_ ?_) | (refine Fork.same ?_; (first | refine fkY ?_ | refine fkF ?_ | ((first | refine fkD ?_ ?_ | refine fkN ?_ ?_ | refine fkM ?_ ?_) <;> intro h))) | ((first | refine OpsL.same ?_ | refine OpsDL.same ?_); first | refine oK c4 rfl rfl rfl ?_) | refine MvQ.stay ?_)
                    refine again (b + 1, none) [0] ⟨hbl, hnx.symm⟩ (by show N - (b + 1) < N - b; omega) ?_
                    (refine qis ?_ ?_ <;> (repeat' first | exact rfl | (refine qS ?_; constructor)))
                · rw [hd] at c3
                  rw [clB, hd, if_neg (by simp)] at hnx
                  (repeat' first | (refine Owe.same ?_; first | refine Owe.o ?_ | refine Owe.mk ?_ ?_) | (refine Fork.same ?_; (first | refine fkY ?_ | refine fkF ?_ | ((first | refine fkD ?_ ?_ | refine fkN ?_ ?_ | refine fkM ?_ ?_) <;> intro h))) | ((first | refine OpsL.same ?_ | refine OpsDL.same ?_); first | refine oK c3 rfl rfl rfl ?_) | refine MvQ.stay ?_)
                  refine again (b + 1, none) [0] ⟨hbl, hnx.symm⟩ (by show N - (b + 1) < N - b; omega) ?_
                  (refine qis ?_ ?_ <;> (repeat' first | exact rfl | (refine qS ?_; constructor)))
      · rcases Nat.lt_or_eq_of_le hb with hbl | rfl
        rotate_left
        · rw [← ho] at hq
          have hm := clK_len ho.symm
          (repeat' first | (refine Owe.same ?_; first | refine Owe.o ?_ | refine Owe.mk ?_ ?_) | (refine Fork.same ?_; (first | refine fkY ?_ | refine fkF ?_ | ((first | refine fkD ?_ ?_ | refine fkN ?_ ?_ | refine fkM ?_ ?_) <;> intro h))) | ((first | refine OpsL.same ?_ | refine OpsDL.same ?_); first | refine oK C55 rfl rfl rfl ?_) | refine MvQ.stay ?_)
          subst hq
          (refine rqK rfl ?_; (repeat' first | exact rfl | (refine qS ?_; constructor)))
        · (repeat' first | (refine Owe.same ?_; first | refine Owe.o ?_ | refine Owe.mk ?_ ?_) | (refine Fork.same ?_; (first | refine fkD ?_ ?_ | refine fkN ?_ ?_ | refine fkM ?_ ?_) <;> intro h) | refine MvQ.stay ?_)
          rotate_left
          · rw [hshl] at h; omega
          · refine Sat.nilS 10 3 1 (fun i => r1 (([] : List Int).getD i 0)) rfl ?_
            refine Sat.lp (fun i : Nat => ⟨[(33, vi .i64 i), (32, vi .i64 s.tk.length), (10, .c (.ms 1 (fltL (fun i => b.testBit i) i).length)), (9, vi .i64 b), (8, nilO (some m)), (2, .c (.rp (siD s))), (6, .c (.bp 0 0))], [(1, rowv 3 1 r1 0 (fltL (fun i => b.testBit i) i)), (0, .box (diC s t))], 2⟩)
              (fun i => i ≤ s.tk.length) (fun i => s.tk.length - i) 0 [0, 1] (Nat.zero_le _) ?_ ?_
            · (refine qis ?_ ?_ <;> (repeat' first | exact rfl | (refine qS ?_; constructor)))
            · intro i hi
              have hfl := fltL_len (fun i => b.testBit i) i
              have hfs := fltL_succ (fun i => b.testBit i) i
              refine Fork.dec (fun hli => ?_) (fun hli => ?_)
              · have hli : i < s.tk.length := by omega
                have htb := bit_i64 (b := b) (i := i) (by omega) (by omega)
                (repeat' first | (refine Owe.same ?_; first | refine Owe.o ?_ | refine Owe.mk ?_ ?_) | (refine Fork.same ?_; (first | refine fkD ?_ ?_ | refine fkN ?_ ?_ | refine fkM ?_ ?_) <;> intro h) | refine MvQ.stay ?_)
                · have h : decide _ = true := decide_eq_true h
                  rw [htb] at h
                  rw [if_pos h] at hfs
                  refine again (i + 1) [0, 2] hli (by omega) ?_
                  (refine qis ?_ ?_ <;> (repeat' first | exact rfl | (refine qS ?_; constructor)))
                  · rw [hfs]; simp
                  · exact hfs
                · have h : decide _ = false := decide_eq_false h
                  rw [htb] at h
                  rw [if_neg (by rw [h]; decide)] at hfs
                  refine again (i + 1) [0, 1] hli (by omega) ?_
                  (refine qis ?_ ?_ <;> (repeat' first | exact rfl | (refine qS ?_; constructor)))
                  · rw [hfs]
                  · rw [hfs]
              · have : i = s.tk.length := by omega
                subst this
                have hsl : (subL s.tk.length b).length ≤ s.tk.length := hfl
                have c3 := C56b (g := 57) (ds := diD s t) (l := subL s.tk.length b) (f := fun i => decide ((subL s.tk.length b).getD i 0 ∈ t.d)) (fun i hi => C57 ht) (by omega)
                rw [anyN_mem (p := fun n => decide (n ∈ t.d))] at c3
                change PFD Tryz.prog 56 _ (vbl (dnB t (subL s.tk.length b))) at c3
                have c4 := fun hd => C58 hs.t (subL s.tk.length b).length hO (SetOk.sub (b := b) hd) (Nat.le_refl _)
                change dnB t (subL s.tk.length b) = false → PFD Tryz.prog 58 _ (vbl (tgB s t (subL s.tk.length b))) at c4
                have hnx : clK s t s.tk.length (b + 1) = if smO (clK s t s.tk.length b) (subL s.tk.length b) = true ∧ clB s t (subL s.tk.length b) = true then some (subL s.tk.length b) else clK s t s.tk.length b := rfl
                rw [← ho] at hnx
                have hm := clK_len ho.symm
                have c5 := C62 (l := subL s.tk.length b) (m := m) ⟨by omega, by omega⟩
                (repeat' first | (refine Owe.same ?_; first | refine Owe.o ?_ | refine Owe.mk ?_ ?_) | (refine Fork.same ?_; (first | refine fkD ?_ ?_ | refine fkN ?_ ?_ | refine fkM ?_ ?_) <;> intro h) | refine MvQ.stay ?_)
                refine OpsL.frz 10 _ rfl rfl (Nat.le_refl _) ?_
                (repeat' first | (refine Owe.same ?_; first | refine Owe.o ?_ | refine Owe.mk ?_ ?_) | (refine Fork.same ?_; (first | refine fkY ?_ | refine fkF ?_ | ((first | refine fkD ?_ ?_ | refine fkN ?_ ?_ | refine fkM ?_ ?_) <;> intro h))) | ((first | refine OpsL.same ?_ | refine OpsDL.same ?_); first | refine pK C61 rfl rfl ?_ | refine pK c5 rfl rfl ?_ | refine pK C60 rfl rfl ?_) | refine MvQ.stay ?_)
                · have hs1 : smO (some m) (subL s.tk.length b) = true := decide_eq_true h
                  rw [hs1] at hnx
                  rcases hd : dnB t (subL s.tk.length b) with _ | _
                  · rw [hd] at c3
                    have c4 := c4 hd
                    rw [clB, hd] at hnx
                    rcases hg : tgB s t (subL s.tk.length b) with _ | _
                    · rw [hg] at c4 hnx
                      rw [if_pos ⟨rfl, rfl⟩] at hnx
                      (repeat' first | (refine Owe.same ?_; first | refine Owe.o ?_ | refine Owe.mk ?_ ?_) | (refine Fork.same ?_; (first | refine fkY ?_ | refine fkF ?_ | ((first | refine fkD ?_ ?_ | refine fkN ?_ ?_ | refine fkM ?_ ?_) <;> intro h))) | ((first | refine OpsL.same ?_ | refine OpsDL.same ?_); first | refine oK c3 rfl rfl rfl ?_ | refine oK c4 rfl rfl rfl ?_) | refine MvQ.stay ?_)
                      refine again (b + 1, some (subL s.tk.length b)) [0] ⟨hbl, hnx.symm⟩ (by show N - (b + 1) < N - b; omega) ?_
                      (refine qis ?_ ?_ <;> (repeat' first | exact rfl | (refine qS ?_; constructor)))
                    · rw [hg] at c4 hnx
                      rw [if_neg (by simp)] at hnx
                      (repeat' first | (refine Owe.same ?_; first | refine Owe.o ?_ | refine Owe.mk ?_ ?_) | (refine Fork.same ?_; (first | refine fkY ?_ | refine fkF ?_ | ((first | refine fkD ?_ ?_ | refine fkN ?_ ?_ | refine fkM ?_ ?_) <;> intro h))) | ((first | refine OpsL.same ?_ | refine OpsDL.same ?_); first | refine oK c3 rfl rfl rfl ?_ | refine oK c4 rfl rfl rfl ?_) | refine MvQ.stay ?_)
                      refine again (b + 1, some m) [0] ⟨hbl, hnx.symm⟩ (by show N - (b + 1) < N - b; omega) ?_
                      (refine qis ?_ ?_ <;> (repeat' first | exact rfl | (refine qS ?_; constructor)))
                  · rw [hd] at c3
                    rw [clB, hd, if_neg (by simp)] at hnx
                    (repeat' first | (refine Owe.same ?_; first | refine Owe.o ?_ | refine Owe.mk ?_ ?_) | (refine Fork.same ?_; (first | refine fkY ?_ | refine fkF ?_ | ((first | refine fkD ?_ ?_ | refine fkN ?_ ?_ | refine fkM ?_ ?_) <;> intro h))) | ((first | refine OpsL.same ?_ | refine OpsDL.same ?_); first | refine oK c3 rfl rfl rfl ?_) | refine MvQ.stay ?_)
                    refine again (b + 1, some m) [0] ⟨hbl, hnx.symm⟩ (by show N - (b + 1) < N - b; omega) ?_
                    (refine qis ?_ ?_ <;> (repeat' first | exact rfl | (refine qS ?_; constructor)))
                · have hs1 : smO (some m) (subL s.tk.length b) = false := decide_eq_false h
                  rw [hs1, if_neg (by simp)] at hnx
                  refine again (b + 1, some m) [0] ⟨hbl, hnx.symm⟩ (by show N - (b + 1) < N - b; omega) ?_
                  (refine qis ?_ ?_ <;> (repeat' first | exact rfl | (refine qS ?_; constructor)))
  · rw [if_neg h0] at hq
    generalize onE s t = e at *
    subst hq
    refine pi2 fn15 ?_
    (repeat' first | (refine Owe.same ?_; first | refine Owe.o ?_ | refine Owe.mk ?_ ?_) | (refine Fork.same ?_; (first | refine fkY ?_ | refine fkF ?_ | ((first | refine fkD ?_ ?_ | refine fkN ?_ ?_ | refine fkM ?_ ?_) <;> intro h))) | ((first | refine OpsL.same ?_ | refine OpsDL.same ?_); first | refine oK c1 rfl rfl rfl ?_) | refine MvQ.stay ?_)
    (refine rqK rfl ?_; (repeat' first | exact rfl | (refine qS ?_; constructor)))
end Go.Pw

set_option linter.unusedSimpArgs false
set_option linter.unusedVariables false
set_option maxHeartbeats 4000000
namespace Go.Pw
set_option maxRecDepth 2000
open Go Go.Proofs A1 A2 A3 A4
abbrev exSi : Si := ⟨[⟨⟨#[118, 97, 108, 118, 101]⟩, 1, 20, 30, 4, 50, 0, 300, []⟩, ⟨⟨#[112, 114, 111, 98, 101]⟩, 2, 10, 10, 1, 30, 80, 90, []⟩, ⟨⟨#[99, 108, 111, 115, 101]⟩, 1, 10, 20, 2, 40, 0, 400, [0]⟩], [[0, 10, 20], [10, 0, 10], [20, 10, 0]], [30, 40, 50], [(100, 199, 5)], 1, 2, 20, 400⟩
abbrev exSt : St8 := ⟨0, 0, 300, 6, []⟩
abbrev exSt1 : St8 := ⟨1, 30, 250, 2, [0]⟩
theorem PFD.res {P : Program} {f : FuncId} {args : List V} {v v' : V} (h : PFD P f args v) (hr : RI v v') : PFD P f args v' :=
  ⟨h.h.1, h.h.2.1, fun Γ w us h1 h2 h3 => (h.h.2.2 Γ w us h1 h2 h3).mono fun e w' ⟨u, Γ', q1, q2, q3⟩ => ⟨u, Γ', q1, hr _ _ _ q2, q3⟩⟩
theorem DI.nil (s : Nat) (f : Nat → List D) : DI (.v (.slice none 0 0)) (.sl s 0 f) := fun I w u h => by
  cases h; exact .slE _ _ _ _
/-- A slice that was written out. -/
abbrev litD (s : Nat) (l : List (List D)) : D := .sl s l.length fun i => l.getD i []
theorem DI.lit {s : Nat} {l : List (List D)} {g : Nat → List D} (h : ∀ i, i < l.length → DIs (l.getD i []) (g i)) : DI (litD s l) (.sl s l.length g) := DI.sl h
abbrev exRaw : List D := [litD 9 [[.v (.string ⟨#[118, 97, 108, 118, 101]⟩), dI 1, dI 20, dI 30, dI 4, dI 50, dI 0, dI 300, .v (.slice none 0 0)], [.v (.string ⟨#[112, 114, 111, 98, 101]⟩), dI 2, dI 10, dI 10, dI 1, dI 30, dI 80, dI 90, .v (.slice none 0 0)], [.v (.string ⟨#[99, 108, 111, 115, 101]⟩), dI 1, dI 10, dI 20, dI 2, dI 40, dI 0, dI 400, litD 1 [[dI 0]]]],
  litD 1 [[litD 1 [[dI 0], [dI 10], [dI 20]]], [litD 1 [[dI 10], [dI 0], [dI 10]]], [litD 1 [[dI 20], [dI 10], [dI 0]]]], litD 1 [[dI 30], [dI 40], [dI 50]], litD 3 [[dI 100, dI 199, dI 5]], dI 1, dI 2, dI 20, dI 400]
theorem DIs.of {ds es : List D} (h : ds = es) : DIs ds es := h ▸ DIs.refl ds
theorem ex3I {a b c : Int} : DI (litD 1 [[dI a], [dI b], [dI c]]) (intsD [a, b, c]) := DI.sl fun i hi => by
  match i, hi with
  | 0, _ => exact DIs.refl _
  | 1, _ => exact DIs.refl _
  | 2, _ => exact DIs.refl _
theorem C48 : PFD Tryz.prog 48 [] (siv exSi) := by
  refine PFD.res (v := .agg [.d (litD 9 [[.v (.string ⟨#[118, 97, 108, 118, 101]⟩), dI 1, dI 20, dI 30, dI 4, dI 50, dI 0, dI 300, .v (.slice none 0 0)], [.v (.string ⟨#[112, 114, 111, 98, 101]⟩), dI 2, dI 10, dI 10, dI 1, dI 30, dI 80, dI 90, .v (.slice none 0 0)], [.v (.string ⟨#[99, 108, 111, 115, 101]⟩), dI 1, dI 10, dI 20, dI 2, dI 40, dI 0, dI 400, litD 1 [[dI 0]]]]), .d (litD 1 [[litD 1 [[dI 0], [dI 10], [dI 20]]], [litD 1 [[dI 10], [dI 0], [dI 10]]], [litD 1 [[dI 20], [dI 10], [dI 0]]]]), .d (litD 1 [[dI 30], [dI 40], [dI 50]]), .d (litD 3 [[dI 100, dI 199, dI 5]]), .d (dI 1), .d (dI 2), .d (dI 20), .d (dI 400)]) ?_ (RI.aggI (ds := exRaw) (es := siD exSi) ?_)
  · refine pi1 fn48 ?_
    (repeat' first | (refine Owe.same ?_; first | refine Owe.o ?_ | refine Owe.mk ?_ ?_) | (refine Fork.same ?_; (first | refine fkD ?_ ?_ | refine fkN ?_ ?_ | refine fkM ?_ ?_) <;> intro h) | refine MvQ.stay ?_)
    (refine rqK rfl ?_; (repeat' first | exact rfl | (refine qS ?_; constructor)))
  · refine .cons (DI.sl fun i hi => ?_) (.cons (DI.sl fun i hi => ?_) (.cons ex3I (.cons (DI.sl fun i hi => ?_) (DIs.refl _))))
    · match i, hi with
      | 0, _ => exact .cons (DI.refl _) (.cons (DI.refl _) (.cons (DI.refl _) (.cons (DI.refl _) (.cons (DI.refl _) (.cons (DI.refl _) (.cons (DI.refl _) (.cons (DI.refl _) (.cons (DI.nil _ _) .nil))))))))
      | 1, _ => exact .cons (DI.refl _) (.cons (DI.refl _) (.cons (DI.refl _) (.cons (DI.refl _) (.cons (DI.refl _) (.cons (DI.refl _) (.cons (DI.refl _) (.cons (DI.refl _) (.cons (DI.nil _ _) .nil))))))))
      | 2, _ => exact .cons (DI.refl _) (.cons (DI.refl _) (.cons (DI.refl _) (.cons (DI.refl _) (.cons (DI.refl _) (.cons (DI.refl _) (.cons (DI.refl _) (.cons (DI.refl _) (.cons (DI.sl fun i hi => by
          match i, hi with
          | 0, _ => exact DIs.refl _) .nil))))))))
    · match i, hi with
      | 0, _ => exact .cons ex3I .nil
      | 1, _ => exact .cons ex3I .nil
      | 2, _ => exact .cons ex3I .nil
    · match i, hi with
      | 0, _ => exact DIs.refl _
/-- The same fold, to be calculated. -/
def grS (s : Si) : Nat → St8 → List Int → List Int × Int → List Int × Int
  | 0, _, p, b => updP s p b
  | f + 1, t, p, b => (List.range s.tk.length).foldl (fun b (k : Nat) => if spE s t (k : Int) = 0 then grS s f (spS s t (k : Int)) (p ++ [(k : Int)]) b else b) (updP s p b)
theorem grS_eq {s : Si} : ∀ (f : Nat) (t : St8) (p : List Int) (b : List Int × Int), grwF s f t p b = grS s f t p b
  | 0, t, p, b => by rw [grwF, grS]
  | f + 1, t, p, b => by
    have key : ∀ k, grwK s f t p (updP s p b) k = (List.range k).foldl (fun b (k : Nat) => if spE s t (k : Int) = 0 then grS s f (spS s t (k : Int)) (p ++ [(k : Int)]) b else b) (updP s p b) := fun k => by
      induction k with
      | zero => rw [grwK]; rfl
      | succ k ih =>
        rw [grwK, List.range_succ, List.foldl_append, ← ih, grS_eq f]
        rfl
    rw [grwF, grS, key]
theorem C49 : PFD Tryz.prog 49 [] (stv exSt) := by
  refine pi1 fn49 ?_
  (repeat' first | (refine Owe.same ?_; first | refine Owe.o ?_ | refine Owe.mk ?_ ?_) | (refine Fork.same ?_; (first | refine fkD ?_ ?_ | refine fkN ?_ ?_ | refine fkM ?_ ?_) <;> intro h) | refine MvQ.stay ?_)
  (refine rqK rfl ?_; (repeat' first | exact rfl | (refine qS ?_; constructor)))
theorem exSm : SiSm exSi := ⟨by decide, by decide, by decide, by decide, by decide, by decide⟩
theorem ex1 : sbE exSi exSt 0 = 0 := by decide +kernel
theorem ex2 : sameB (spS exSi exSt 0) exSt1 = true := by decide +kernel
theorem ex3 : lrE exSi exSt1 = (170, 0) := by decide +kernel
theorem ex4 : orE exSi exSt = 0 := by decide +kernel
theorem ex5 : bestP exSi exSt = ([0, 2], 90) := by
  rw [bestP, grS_eq]; decide +kernel
theorem ex6 : clE exSi exSt = ([0, 1, 2], 0) := by decide +kernel
theorem C8 : PFD Tryz.prog 8 [] (vbl true) := by
  have c1 := C30 (s := exSi) (t := exSt) (n := 0) ⟨exSm, by decide⟩
  rw [ex1, if_pos rfl] at c1
  have c2 := C50 (s := exSi) (t := exSt1) ⟨exSm, by decide⟩
  rw [ex3] at c2
  have c3 := C22 (s := exSi) (t := exSt) ⟨exSm, by decide⟩
  rw [ex4, if_pos rfl, if_pos rfl, ex5] at c3
  have c4 := C15 (s := exSi) (t := exSt) ⟨exSm, by decide⟩
  rw [ex6] at c4
  have hl : (spS exSi exSt 0).d.length < 4611686018427387904 := by decide +kernel
  have c5 := C35 (a := spS exSi exSt 0) (b := exSt1) hl
  rw [ex2] at c5
  have c6 := C18 (l := [0, 2]) (m := [0, 2]) (by decide)
  have c7 := C18 (l := [0, 1, 2]) (m := [0, 1, 2]) (by decide)
  rw [decide_eq_true rfl] at c6 c7
  generalize spS exSi exSt 0 = X at *
  refine pi1 fn8 ?_
  (repeat' first | (refine Owe.same ?_; first | refine Owe.o ?_ | refine Owe.mk ?_ ?_) | (refine Fork.same ?_; (first | refine fkY ?_ | refine fkF ?_ | ((first | refine fkD ?_ ?_ | refine fkN ?_ ?_ | refine fkM ?_ ?_) <;> intro h))) | ((first | refine OpsL.same ?_ | refine OpsDL.same ?_); first | refine pK C48 rfl rfl ?_ | refine pK C49 rfl rfl ?_ | refine pK c1 rfl rfl ?_ | refine pK c2 rfl rfl ?_ | refine pK c3 rfl rfl ?_ | refine pK c4 rfl rfl ?_ | refine pK c5 rfl rfl ?_) | refine MvQ.stay ?_)
  ((first | refine OpsL.same ?_ | refine OpsDL.same ?_); first | refine pK c6 rfl rfl ?_)
  (repeat' first | (refine Owe.same ?_; first | refine Owe.o ?_ | refine Owe.mk ?_ ?_) | (refine Fork.same ?_; (first | refine fkY ?_ | refine fkF ?_ | ((first | refine fkD ?_ ?_ | refine fkN ?_ ?_ | refine fkM ?_ ?_) <;> intro h))) | ((first | refine OpsL.same ?_ | refine OpsDL.same ?_); first | refine oK C48 rfl rfl rfl ?_) | refine MvQ.stay ?_)
  ((first | refine OpsL.same ?_ | refine OpsDL.same ?_); first | refine pK c7 rfl rfl ?_)
  (repeat' first | (refine Owe.same ?_; first | refine Owe.o ?_ | refine Owe.mk ?_ ?_) | (refine Fork.same ?_; (first | refine fkY ?_ | refine fkF ?_ | ((first | refine fkD ?_ ?_ | refine fkN ?_ ?_ | refine fkM ?_ ?_) <;> intro h))) | ((first | refine OpsL.same ?_ | refine OpsDL.same ?_); first | refine oK C48 rfl rfl rfl ?_) | refine MvQ.stay ?_)
  (refine rqK rfl ?_; (repeat' first | exact rfl | (refine qS ?_; constructor)))
end Go.Pw

set_option linter.unusedVariables false
set_option maxHeartbeats 2000000
set_option maxRecDepth 100000
namespace Go.Pw
open Go Go.Proofs
end Go.Pw

set_option linter.unusedSimpArgs false
set_option linter.unusedVariables false
set_option maxHeartbeats 4000000
namespace Go.Pw
set_option maxRecDepth 2000
open Go Go.Proofs A1 A2 A3 A4
end Go.Pw

set_option linter.unusedSimpArgs false
set_option linter.unusedVariables false
set_option maxHeartbeats 4000000
namespace Go.Pw
set_option maxRecDepth 2000
open Go Go.Proofs A1 A2 A3 A4
theorem C82 {s : Si} {n a : Int} : (s.ti.length ≤ 1000000 ∧ (∀ k, k < s.ti.length → isN (s.ti.getD k (0, 0, 0)).2.2) ∧ -1000000000 ≤ n ∧ n ≤ 1000000000) → PFD Tryz.prog 82 [siv s, vi .i64 n, vi .i64 a] (vi .i64 (swF s.ti n a)) := fun ⟨hl, hs, hn⟩ => by
  obtain ⟨q, hq⟩ : ∃ q, q = swF s.ti n a := ⟨_, rfl⟩
  rw [← hq]
  rw [swF] at hq
  refine pi1 fn82 ?_
  (repeat' first | (refine Owe.same ?_; first | refine Owe.o ?_ | refine Owe.mk ?_ ?_) | (refine Fork.same ?_; (first | refine fkD ?_ ?_ | refine fkN ?_ ?_ | refine fkM ?_ ?_) <;> intro h) | refine MvQ.stay ?_)
  · rw [if_pos h] at hq; subst hq; (refine rqK rfl ?_; (repeat' first | exact rfl | (refine qS ?_; constructor)))
  · rw [if_neg h] at hq
    refine Sat.lp0 (fun k : Nat => [(7, vi .i64 k), (3, .c (.rp (siD s))), (1, vi .i64 n), (2, vi .i64 a)]) (fun k => k ≤ s.ti.length ∧ q = swL n a (s.ti.drop k)) (fun k => s.ti.length - k) 0 ⟨Nat.zero_le _, hq⟩ (by ((first | refine qen ?_ | refine qvs ?_ | refine qeq ?_ | refine qst ?_ | refine qv ?_ | refine qc ?_ | refine qe ?_ | refine qcs ?_ | skip); (repeat' first | exact rfl | (refine qS ?_; constructor)))) ?_
    intro k hk
    refine Fork.dec (fun hlt => ?_) (fun hlt => ?_)
    · have hlt : k < s.ti.length := by omega
      have h1 : isN (s.ti.getD k (0, 0, 0)).2.2 := hs k hlt
      have e := swL_drop n a s.ti k hlt
      rw [← hk.2] at e
      (repeat' first | (refine Owe.same ?_; first | refine Owe.o ?_ | refine Owe.mk ?_ ?_) | (refine Fork.same ?_; (first | refine fkD ?_ ?_ | refine fkN ?_ ?_ | refine fkM ?_ ?_) <;> intro h) | ((first | refine OpsL.same ?_ | refine OpsDL.same ?_); first | refine pK C75 rfl rfl ?_) | refine MvQ.stay ?_)
      · have h : (s.ti.getD k (0, 0, 0)).1 ≤ a ∧ a ≤ (s.ti.getD k (0, 0, 0)).2.1 := h
        rw [if_pos h] at e; subst e
        (refine rqK rfl ?_; (repeat' first | exact rfl | (refine qS ?_; constructor)))
      · have h : ¬ ((s.ti.getD k (0, 0, 0)).1 ≤ a ∧ a ≤ (s.ti.getD k (0, 0, 0)).2.1) := h
        rw [if_neg h] at e
        exact again0 (k + 1) ⟨hlt, e⟩ (by omega) (by ((first | refine qen ?_ | refine qvs ?_ | refine qeq ?_ | refine qst ?_ | refine qv ?_ | refine qc ?_ | refine qe ?_ | refine qcs ?_ | skip); (repeat' first | exact rfl | (refine qS ?_; constructor))))
    · have e := hk.2
      rw [List.drop_of_length_le (by omega)] at e
      (repeat' first | (refine Owe.same ?_; first | refine Owe.o ?_ | refine Owe.mk ?_ ?_) | (refine Fork.same ?_; (first | refine fkD ?_ ?_ | refine fkN ?_ ?_ | refine fkM ?_ ?_) <;> intro h) | refine MvQ.stay ?_)
      subst e
      (refine rqK rfl ?_; (repeat' first | exact rfl | (refine qS ?_; constructor)))
theorem C76 {s : Si} {t : St8} : DvB s t → PFD Tryz.prog 76 [siv s, stv t] (.agg [int (hmT s t), int (hmT s t * s.swim)]) := fun h => by
  have hb := hmT_bd h
  have h1 := h.pl
  have h2 := h.ok.m
  have h3 := (h.ok.r t.p.toNat (by omega)).1.1
  have h4 := h.ok.e
  have c1 := C82 (s := s) (n := s.ho.getD t.p.toNat 0) (a := t.t) ⟨by omega, fun k hk => (h.ok.u k hk).1.2, by omega⟩
  obtain ⟨n, hn⟩ : ∃ n, n = hmT s t := ⟨_, rfl⟩
  rw [← hn] at hb ⊢
  change PFD Tryz.prog 82 _ (vi .i64 (hmT s t)) at c1
  rw [← hn] at c1
  have hm := mbd (a := n) (A := 20000) (by omega) (b := s.swim) (B := 10000) (by omega)
  refine pi1 fn76 ?_
  (repeat' first | (refine Owe.same ?_; first | refine Owe.o ?_ | refine Owe.mk ?_ ?_) | (refine Fork.same ?_; (first | refine fkD ?_ ?_ | refine fkN ?_ ?_ | refine fkM ?_ ?_) <;> intro h) | ((first | refine OpsL.same ?_ | refine OpsDL.same ?_); first | refine pK c1 rfl rfl ?_) | refine MvQ.stay ?_)
  (refine rqK rfl ?_; (repeat' first | exact rfl | (refine qS ?_; constructor)))
theorem C28 {s : Si} {t : St8} : DvB s t → PFD Tryz.prog 28 [siv s, stv t] (vbl (reB s t)) := fun h => by
  have hb := hmT_bd h
  have h1 := h.tm
  have h2 := h.en
  have h4 := h.ok.e
  have hm := mbd (a := hmT s t) (A := 20000) (by omega) (b := s.swim) (B := 10000) (by omega)
  have c1 := C76 h
  refine pi1 fn28 ?_
  (repeat' first | (refine Owe.same ?_; first | refine Owe.o ?_ | refine Owe.mk ?_ ?_) | (refine Fork.same ?_; (first | refine fkD ?_ ?_ | refine fkN ?_ ?_ | refine fkM ?_ ?_) <;> intro h) | ((first | refine OpsL.same ?_ | refine OpsDL.same ?_); first | refine pK c1 rfl rfl ?_) | refine MvQ.stay ?_)
  · (refine rqK rfl ?_; (repeat' first | exact rfl | (refine qS ?_; constructor)))
    rw [reB]; exact decide_eq_decide.2 ⟨fun hh => ⟨h, hh⟩, fun hh => hh.2⟩
  · (refine rqK rfl ?_; (repeat' first | exact rfl | (refine qS ?_; constructor)))
    have hf : reB s t = false := decide_eq_false fun hh => h hh.1
    exact hf
end Go.Pw

set_option linter.unusedSimpArgs false
set_option linter.unusedVariables false
set_option maxHeartbeats 4000000
namespace Go.Pw
set_option maxRecDepth 2000
open Go Go.Proofs A1 A2 A3 A4
end Go.Pw

set_option linter.unusedSimpArgs false
set_option linter.unusedVariables false
set_option maxHeartbeats 4000000
namespace Go.Pw
set_option maxRecDepth 2000
open Go Go.Proofs A1 A2 A3 A4
theorem OnOk.on {s : Si} {t : St8} (h : OnOk s t) (h0 : (siE s).2 = 0) : onE s t = 0 := by
  rw [onE_eq h0, rsE, if_pos (by have := h.pl; omega), if_pos ⟨⟨h.tm, h.en⟩, h.oil⟩]
  exact h.d
end Go.Pw

set_option linter.unusedSimpArgs false
set_option linter.unusedVariables false
set_option maxHeartbeats 4000000
namespace Go.Pw
set_option maxRecDepth 2000
open Go Go.Proofs A1 A2 A3 A4
theorem split_at {l : List Int} {k : Nat} (hk : k < l.length) : l = l.take k ++ l.getD k 0 :: l.drop (k + 1) := by
  rw [List.getD_eq_getElem?_getD, List.getElem?_eq_getElem hk]
  show l = l.take k ++ l[k] :: l.drop (k + 1)
  rw [← List.drop_eq_getElem_cons hk, List.take_append_drop]
theorem wo_filter {l : List Int} {k : Nat} (h : l.Nodup) (hk : k < l.length) : wo l k = l.filter fun x => decide (x ≠ l.getD k 0) := by
  have hn := wo_not h hk
  obtain ⟨x, hx⟩ : ∃ x, x = l.getD k 0 := ⟨_, rfl⟩
  have e := split_at hk
  rw [← hx] at e hn ⊢
  have hw : wo l k = l.take k ++ l.drop (k + 1) := rfl
  rw [hw] at hn ⊢
  conv => rhs; rw [e]
  rw [List.filter_append, List.filter_cons_of_neg (by simp)]
  have h1 : ∀ y ∈ l.take k, decide (y ≠ x) = true := fun y hy => decide_eq_true fun e => hn (e ▸ List.mem_append_left _ hy)
  have h2 : ∀ y ∈ l.drop (k + 1), decide (y ≠ x) = true := fun y hy => decide_eq_true fun e => hn (e ▸ List.mem_append_right _ hy)
  rw [List.filter_eq_self.2 h1, List.filter_eq_self.2 h2]
end Go.Pw

set_option linter.unusedSimpArgs false
set_option linter.unusedVariables false
set_option maxHeartbeats 4000000
namespace Go.Pw
set_option maxRecDepth 2000
open Go Go.Proofs A1 A2 A3 A4
theorem asc_ext : ∀ {l m : List Int}, l.Pairwise (· < ·) → m.Pairwise (· < ·) → (∀ x, x ∈ l ↔ x ∈ m) → l = m
  | [], [], _, _, _ => rfl
  | [], y :: m, _, _, h => absurd ((h y).2 (List.mem_cons_self ..)) (by simp)
  | x :: l, [], _, _, h => absurd ((h x).1 (List.mem_cons_self ..)) (by simp)
  | x :: l, y :: m, h1, h2, h => by
    rw [List.pairwise_cons] at h1 h2
    have hxy : x = y := by
      rcases List.mem_cons.1 ((h x).1 (List.mem_cons_self ..)) with e | h3
      · exact e
      · rcases List.mem_cons.1 ((h y).2 (List.mem_cons_self ..)) with e | h4
        · exact e.symm
        · have := h1.1 y h4
          have := h2.1 x h3
          omega
    subst hxy
    rw [asc_ext h1.2 h2.2 fun z => ⟨fun hz => ?_, fun hz => ?_⟩]
    · have := h1.1 z hz
      rcases List.mem_cons.1 ((h z).1 (List.mem_cons_of_mem _ hz)) with e | h3
      · omega
      · exact h3
    · have := h2.1 z hz
      rcases List.mem_cons.1 ((h z).2 (List.mem_cons_of_mem _ hz)) with e | h3
      · omega
      · exact h3
theorem Srt.pw {l : List Int} (h : Srt l) : l.Pairwise (· < ·) := by
  rw [List.pairwise_iff_getElem]
  intro i j hi hj hij
  have := h.lt hij hj
  rwa [List.getD_eq_getElem?_getD, List.getElem?_eq_getElem hi, List.getD_eq_getElem?_getD, List.getElem?_eq_getElem hj] at this
abbrev dnF (t : St8) (n : Int) (i : Nat) : Bool := decide ((i : Int) = n) || decide ((i : Int) ∈ t.d)
theorem done_eq {s : Si} {t : St8} {n : Int} (h : OnOk s t) (hn : 0 ≤ n ∧ n < s.tk.length) (hx : n ∉ t.d) : fltL (dnF t n) s.tk.length = insI t.d (bsI n t.d) n := by
  obtain ⟨s1, s2⟩ := Srt.of h.d
  refine asc_ext fltL_asc (insI_srt s1 hx).pw fun x => ?_
  rw [insI_mem]
  constructor
  · intro hm
    obtain ⟨i, hi, rfl⟩ := List.mem_map.1 hm
    have := (List.mem_filter.1 hi).2
    simpa [dnF] using this
  · intro hm
    have hb : 0 ≤ x ∧ x < s.tk.length := by
      rcases hm with rfl | hm
      · exact hn
      · obtain ⟨j, hj, e⟩ := List.getElem_of_mem hm
        have := s2 j hj
        rw [List.getD_eq_getElem?_getD, List.getElem?_eq_getElem hj] at this
        have this : 0 ≤ t.d[j] ∧ t.d[j] ≤ (s.tk.length : Int) - 1 := this
        rw [e] at this
        omega
    obtain ⟨k, rfl⟩ := Int.eq_ofNat_of_zero_le hb.1
    exact fltL_mem.2 ⟨by omega, by simpa [dnF] using hm⟩
/-- The reference's error of a step, some tasks being taken as done. -/
abbrev ndB (s : Si) (t : St8) (n : Int) (g : List Int) (i : Nat) : Bool := !decide ((tkA s n).a.getD i 0 ∈ t.d) && !decide ((tkA s n).a.getD i 0 ∈ g)
def rpE (s : Si) (t : St8) (n : Int) (g : List Int) : Int := if wi n 0 ((s.tk.length : Int) - 1) = true then (if n ∈ t.d then 23 else if anyN (ndB s t n g) (tkA s n).a.length = true then 9 else nxE s t n) else 6
abbrev ze5 : List C := [int 0, int 0, int 0, int 0, .d (.v (.slice none 0 0))]
theorem C36 {s : Si} {t : St8} {n : Int} {g : List Int} : (OnOk s t ∧ TkSm s.tk ∧ g.length ≤ 1000000) → PFD Tryz.prog 36 [siv s, stv t, vi .i64 n, .c (ints g)] (.tup [stv (if rpE s t n g = 0 then nxS s t n else st0), vi .i64 (rpE s t n g)]) := fun ⟨h, hs, hg⟩ => by
  have n6 := h.ok.n
  have ld := h.dl
  have c1 := C26 (s := s) (n := n) (by omega)
  have c2 := C20 (l := t.d) (n := n) (by omega)
  obtain ⟨e, he⟩ : ∃ e, e = rpE s t n g := ⟨_, rfl⟩
  rw [← he]
  rw [rpE] at he
  by_cases hw : wi n 0 ((s.tk.length : Int) - 1) = true
  rotate_left
  · rw [if_neg hw] at he
    subst he
    have hw : wi n 0 ((s.tk.length : Int) - 1) = false := by simpa using hw
    rw [hw] at c1
    refine pi2 fn36 ?_
    (repeat' first | (refine Owe.same ?_; first | refine Owe.o ?_ | refine Owe.mk ?_ ?_) | (refine Fork.same ?_; (first | refine fkY ?_ | refine fkF ?_ | ((first | refine fkD ?_ ?_ | refine fkN ?_ ?_ | refine fkM ?_ ?_) <;> intro h))) | ((first | refine OpsL.same ?_ | refine OpsDL.same ?_); first | refine oK c1 rfl rfl rfl ?_) | refine MvQ.stay ?_)
    (refine rqK rfl ?_; (repeat' first | exact rfl | (refine qS ?_; constructor)))
  rw [if_pos hw] at he
  rw [hw] at c1
  have hn := of_decide_eq_true hw
  by_cases hx : n ∈ t.d
  · rw [if_pos hx] at he
    rw [decide_eq_true hx] at c2
    subst he
    refine pi2 fn36 ?_
    (repeat' first | (refine Owe.same ?_; first | refine Owe.o ?_ | refine Owe.mk ?_ ?_) | (refine Fork.same ?_; (first | refine fkY ?_ | refine fkF ?_ | ((first | refine fkD ?_ ?_ | refine fkN ?_ ?_ | refine fkM ?_ ?_) <;> intro h))) | ((first | refine OpsL.same ?_ | refine OpsDL.same ?_); first | refine oK c1 rfl rfl rfl ?_ | refine oK c2 rfl rfl rfl ?_) | refine MvQ.stay ?_)
    (refine rqK rfl ?_; (repeat' first | exact rfl | (refine qS ?_; constructor)))
  rw [if_neg hx] at he
  rw [decide_eq_false hx] at c2
  have hal : (tkA s n).a.length ≤ 1000000 := (hs n.toNat (by omega)).2
  have hb := trT_bd (p := (tkA s n).p) h
  have hB := (h.ok.t n.toNat (by omega)).b
  have hdone := done_eq h ⟨hn.1, by omega⟩ hx
  have hN := C28 (nxT_b (n := n) h hB hb)
  have h2 := h.tm
  have h3 := h.en
  have h4 := h.ok.e
  have h11 := h.oil
  have h12 := h.pl
  have h13 := h.ok.h
  have h14 := (h.ok.r t.p.toNat (by omega)).1.2
  have h15 := h.ok.m
  have h17 := (h.ok.r t.p.toNat (by omega)).2.1 (tkA s n).p.toNat
  have c3 := C82 (s := s) (n := (s.tr.getD t.p.toNat []).getD (tkA s n).p.toNat 0) (a := t.t) ⟨by omega, fun k hk => (h.ok.u k hk).1.2, by omega⟩
  change PFD Tryz.prog 82 _ (vi .i64 (trT s t (tkA s n).p)) at c3
  obtain ⟨nd, hnd⟩ : ∃ nd, nd = ndB s t n g := ⟨_, rfl⟩
  rw [← hnd] at he
  have hnd : ∀ i, nd i = ndB s t n g i := fun i => by rw [hnd]
  simp only [tkA] at *
  obtain ⟨T, hT⟩ : ∃ T, T = s.tk.getD n.toNat tk0 := ⟨_, rfl⟩
  refine pi2 fn36 ?_
  (repeat' first | (refine Owe.same ?_; first | refine Owe.o ?_ | refine Owe.mk ?_ ?_) | (refine Fork.same ?_; (first | refine fkY ?_ | refine fkF ?_ | ((first | refine fkD ?_ ?_ | refine fkN ?_ ?_ | refine fkM ?_ ?_) <;> intro h))) | ((first | refine OpsL.same ?_ | refine OpsDL.same ?_); first | refine oK c1 rfl rfl rfl ?_ | refine oK c2 rfl rfl rfl ?_) | refine MvQ.stay ?_)
  (repeat' first | (refine Owe.same ?_; first | refine Owe.o ?_ | refine Owe.mk ?_ ?_) | (refine Fork.same ?_; (first | refine fkD ?_ ?_ | refine fkN ?_ ?_ | refine fkM ?_ ?_) <;> intro h) | refine MvQ.stay ?_)
  refine Sat.lp (fun j : Nat => ⟨[(12, vi .i64 j), (2, vi .i64 n), (3, .c (ints g)), (4, .c (.rp (siD s))), (5, .c (.rp (stD t))), (8, .c (.bp 0 0)), (10, .c (.bp 1 0)), (11, .c (.bp 2 0))], [(2, .box (tkC (s.tk.getD n.toNat tk0))), (1, .box ze5), (0, .box ze5)], 3⟩) (fun j => j ≤ (s.tk.getD n.toNat tk0).a.length ∧ ∀ i, i < j → nd i = false) (fun j => (s.tk.getD n.toNat tk0).a.length - j) 0 [0, 1, 2] ⟨Nat.zero_le _, fun i hi => by omega⟩ ?_ ?_
  · (refine qis ?_ ?_ <;> (repeat' first | exact rfl | (refine qS ?_; constructor)))
  · intro j hj
    refine Fork.dec (fun hlt => ?_) (fun hlt => ?_)
    · have hlt : j < (s.tk.getD n.toNat tk0).a.length := by omega
      have c4 := C20 (l := t.d) (n := (s.tk.getD n.toNat tk0).a.getD j 0) (by omega)
      have c5 := C20 (l := g) (n := (s.tk.getD n.toNat tk0).a.getD j 0) (by omega)
      have hndj := hnd j
      rcases q1 : decide ((s.tk.getD n.toNat tk0).a.getD j 0 ∈ t.d) with _ | _
      · rcases q2 : decide ((s.tk.getD n.toNat tk0).a.getD j 0 ∈ g) with _ | _
        · rw [q1] at c4
          rw [q2] at c5
          rw [ndB, q1, q2] at hndj
          rw [if_pos (anyN_t hlt hndj)] at he
          subst he
          (repeat' first | (refine Owe.same ?_; first | refine Owe.o ?_ | refine Owe.mk ?_ ?_) | (refine Fork.same ?_; (first | refine fkY ?_ | refine fkF ?_ | ((first | refine fkD ?_ ?_ | refine fkN ?_ ?_ | refine fkM ?_ ?_) <;> intro h))) | ((first | refine OpsL.same ?_ | refine OpsDL.same ?_); first | refine oK c4 rfl rfl rfl ?_ | refine oK c5 rfl rfl rfl ?_) | refine MvQ.stay ?_)
          (refine rqK rfl ?_; (repeat' first | exact rfl | (refine qS ?_; constructor)))
        · rw [q1] at c4
          rw [q2] at c5
          rw [ndB, q1, q2] at hndj
          (repeat' first | (refine Owe.same ?_; first | refine Owe.o ?_ | refine Owe.mk ?_ ?_) | (refine Fork.same ?_; (first | refine fkY ?_ | refine fkF ?_ | ((first | refine fkD ?_ ?_ | refine fkN ?_ ?_ | refine fkM ?_ ?_) <;> intro h))) | ((first | refine OpsL.same ?_ | refine OpsDL.same ?_); first | refine oK c4 rfl rfl rfl ?_ | refine oK c5 rfl rfl rfl ?_) | refine MvQ.stay ?_)
          refine again (j + 1) [0, 1, 2] ⟨hlt, succ_all hj.2 hndj⟩ (by omega) ?_
          (refine qis ?_ ?_ <;> (repeat' first | exact rfl | (refine qS ?_; constructor)))
      · rw [q1] at c4
        rw [ndB, q1] at hndj
        (repeat' first | (refine Owe.same ?_; first | refine Owe.o ?_ | refine Owe.mk ?_ ?_) | (refine Fork.same ?_; (first | refine fkY ?_ | refine fkF ?_ | ((first | refine fkD ?_ ?_ | refine fkN ?_ ?_ | refine fkM ?_ ?_) <;> intro h))) | ((first | refine OpsL.same ?_ | refine OpsDL.same ?_); first | refine oK c4 rfl rfl rfl ?_) | refine MvQ.stay ?_)
        refine again (j + 1) [0, 1, 2] ⟨hlt, succ_all hj.2 hndj⟩ (by omega) ?_
        (refine qis ?_ ?_ <;> (repeat' first | exact rfl | (refine qS ?_; constructor)))
    · have : j = (s.tk.getD n.toNat tk0).a.length := by omega
      subst this
      rw [if_neg (by rw [anyN_f.2 hj.2]; decide)] at he
      have he : e = nxF s t (s.tk.getD n.toNat tk0) (trT s t (s.tk.getD n.toNat tk0).p) n := he
      have hnS : nxS s t n = nxT s t (s.tk.getD n.toNat tk0) (trT s t (s.tk.getD n.toNat tk0).p) n := rfl
      rw [hnS]
      generalize hsw : trT s t (s.tk.getD n.toNat tk0).p = sw at *
      obtain ⟨b5, b6, b7, b8, b9, b10⟩ := hB
      have m1 := mbd (a := sw) (A := 20000) (by omega) (b := s.swim) (B := 10000) (by omega)
      have m2 := mbd (a := max (t.t + sw) (s.tk.getD n.toNat tk0).lo - (t.t + sw)) (A := 200000) (by omega) (b := s.idle) (B := 10000) (by omega)
      rw [nxF] at he
      have hhi : unl (t.t + sw ≤ (s.tk.getD n.toNat tk0).hi) 22 = if (s.tk.getD n.toNat tk0).hi < t.t + sw then 22 else 0 := by
        by_cases q : (s.tk.getD n.toNat tk0).hi < t.t + sw
        · rw [if_pos q, unl, decide_eq_false (by omega)]; rfl
        · rw [if_neg q, unl, decide_eq_true (by omega)]; rfl
      have hoi : unl (0 ≤ (nxT s t (s.tk.getD n.toNat tk0) sw n).o) 11 = if t.o < (s.tk.getD n.toNat tk0).o then 11 else 0 := by
        have eo : (nxT s t (s.tk.getD n.toNat tk0) sw n).o = t.o - (s.tk.getD n.toNat tk0).o := rfl
        by_cases q : t.o < (s.tk.getD n.toNat tk0).o
        · rw [if_pos q, unl, decide_eq_false (by omega)]; rfl
        · rw [if_neg q, unl, decide_eq_true (by omega)]; rfl
      rw [hhi, hoi] at he
      have hwv : (nxT s t (s.tk.getD n.toNat tk0) sw n) = ⟨(s.tk.getD n.toNat tk0).p, max (t.t + sw) (s.tk.getD n.toNat tk0).lo + (s.tk.getD n.toNat tk0).d, t.w - sw * s.swim - (max (t.t + sw) (s.tk.getD n.toNat tk0).lo - (t.t + sw)) * s.idle - (s.tk.getD n.toNat tk0).w, t.o - (s.tk.getD n.toNat tk0).o, fltL (dnF t n) s.tk.length⟩ := by
        rw [nxT, hdone]
        congr 1
        omega
      (repeat' first | (refine Owe.same ?_; first | refine Owe.o ?_ | refine Owe.mk ?_ ?_) | (refine Fork.same ?_; (first | refine fkY ?_ | refine fkF ?_ | ((first | refine fkD ?_ ?_ | refine fkN ?_ ?_ | refine fkM ?_ ?_) <;> intro h))) | ((first | refine OpsL.same ?_ | refine OpsDL.same ?_); first | refine oK c3 rfl rfl rfl ?_) | refine MvQ.stay ?_)
      (repeat' first | (refine Owe.same ?_; first | refine Owe.o ?_ | refine Owe.mk ?_ ?_) | (refine Fork.same ?_; (first | refine fkD ?_ ?_ | refine fkN ?_ ?_ | refine fkM ?_ ?_) <;> intro h) | refine MvQ.stay ?_)
      · rw [if_pos h, fstE, if_neg (by decide)] at he
        subst he
        (refine rqK rfl ?_; (repeat' first | exact rfl | (refine qS ?_; constructor)))
      · rename_i q1
        rw [if_neg q1, if_pos h, fstE, if_pos rfl, fstE, if_neg (by decide)] at he
        subst he
        (refine rqK rfl ?_; (repeat' first | exact rfl | (refine qS ?_; constructor)))
      · rename_i q1
        rw [if_neg q1, if_neg h, fstE, if_pos rfl, fstE, if_pos rfl, fstE, fstE] at he
        rw [hwv] at hN
        rw [hwv]
        rw [hwv] at he
        clear hwv hhi hoi hdone hnS h2 h3 h4 h11 h12 h13 h14 h15 h17 m1 m2
        generalize max (t.t + sw) (s.tk.getD n.toNat tk0).lo + (s.tk.getD n.toNat tk0).d = X1 at *
        generalize t.w - sw * s.swim - (max (t.t + sw) (s.tk.getD n.toNat tk0).lo - (t.t + sw)) * s.idle - (s.tk.getD n.toNat tk0).w = X2 at *
        generalize t.o - (s.tk.getD n.toNat tk0).o = X3 at *
        refine Sat.nilB 17 4 3 1 (fun i => r1 (([] : List Int).getD i 0)) rfl rfl ?_
        refine Sat.lp (fun k : Nat => ⟨[(17, vi .i64 k), (2, vi .i64 n), (4, .c (.rp (siD s))), (5, .c (.rp (stD t))), (8, .c (.bp 0 0)), (10, .c (.bp 1 0)), (16, .c (.bp 2 0))], [(3, rowv 3 1 r1 0 (fltL (dnF t n) k)), (2, .box [int (s.tk.getD n.toNat tk0).p, int X1, int X2, int X3, .ms 3 (fltL (dnF t n) k).length]), (1, .box ze5), (0, .box ze5)], 4⟩) (fun k => k ≤ s.tk.length) (fun k => s.tk.length - k) 0 [0, 1, 17, 18] (Nat.zero_le _) ?_ ?_
        · (refine qis ?_ ?_ <;> (repeat' first | exact rfl | (refine qS ?_; constructor)))
        · intro k hk
          have hfl := fltL_len (dnF t n) k
          have hfs := fltL_succ (dnF t n) k
          refine Fork.dec (fun hlt => ?_) (fun hlt => ?_)
          · have hlt : k < s.tk.length := by omega
            have c4 := C20 (l := t.d) (n := (k : Int)) (by omega)
            have hdk : dnF t n k = (decide ((k : Int) = n) || decide ((k : Int) ∈ t.d)) := rfl
            by_cases q2 : (k : Int) = n
            · rw [hdk, decide_eq_true q2, Bool.true_or, if_pos rfl] at hfs
              (repeat' first | (refine Owe.same ?_; first | refine Owe.o ?_ | refine Owe.mk ?_ ?_) | (refine Fork.same ?_; (first | refine fkY ?_ | refine fkF ?_ | ((first | refine fkD ?_ ?_ | refine fkN ?_ ?_ | refine fkM ?_ ?_) <;> intro h))) | ((first | refine OpsL.same ?_ | refine OpsDL.same ?_); first | refine oK c4 rfl rfl rfl ?_) | refine MvQ.stay ?_)
              (repeat' first | (refine Owe.same ?_; first | refine Owe.o ?_ | refine Owe.mk ?_ ?_) | (refine Fork.same ?_; (first | refine fkD ?_ ?_ | refine fkN ?_ ?_ | refine fkM ?_ ?_) <;> intro h) | refine MvQ.stay ?_)
              refine again (k + 1) [0, 1, 2, 4] hlt (by omega) ?_
              rw [hfs]
              (refine qis ?_ ?_ <;> (repeat' first | exact rfl | (refine qS ?_; constructor)))
              simp
            · rcases q3 : decide ((k : Int) ∈ t.d) with _ | _
              · rw [hdk, decide_eq_false q2, q3, if_neg (by decide)] at hfs
                rw [q3] at c4
                (repeat' first | (refine Owe.same ?_; first | refine Owe.o ?_ | refine Owe.mk ?_ ?_) | (refine Fork.same ?_; (first | refine fkY ?_ | refine fkF ?_ | ((first | refine fkD ?_ ?_ | refine fkN ?_ ?_ | refine fkM ?_ ?_) <;> intro h))) | ((first | refine OpsL.same ?_ | refine OpsDL.same ?_); first | refine oK c4 rfl rfl rfl ?_) | refine MvQ.stay ?_)
                refine again (k + 1) [0, 1, 2, 3] hlt (by omega) ?_
                rw [hfs]
                (refine qis ?_ ?_ <;> (repeat' first | exact rfl | (refine qS ?_; constructor)))
              · rw [hdk, q3, Bool.or_true, if_pos rfl] at hfs
                rw [q3] at c4
                (repeat' first | (refine Owe.same ?_; first | refine Owe.o ?_ | refine Owe.mk ?_ ?_) | (refine Fork.same ?_; (first | refine fkY ?_ | refine fkF ?_ | ((first | refine fkD ?_ ?_ | refine fkN ?_ ?_ | refine fkM ?_ ?_) <;> intro h))) | ((first | refine OpsL.same ?_ | refine OpsDL.same ?_); first | refine oK c4 rfl rfl rfl ?_) | refine MvQ.stay ?_)
                refine again (k + 1) [0, 1, 2, 4] hlt (by omega) ?_
                rw [hfs]
                (refine qis ?_ ?_ <;> (repeat' first | exact rfl | (refine qS ?_; constructor)))
                simp
          · have : k = s.tk.length := by omega
            subst this
            (repeat' first | (refine Owe.same ?_; first | refine Owe.o ?_ | refine Owe.mk ?_ ?_) | (refine Fork.same ?_; (first | refine fkD ?_ ?_ | refine fkN ?_ ?_ | refine fkM ?_ ?_) <;> intro h))
            refine MvQ.frzX 2 4 3 rfl rfl rfl (Nat.le_refl _) ?_
            generalize fltL (dnF t n) s.tk.length = L at *
            rcases hb : reB s ⟨(s.tk.getD n.toNat tk0).p, X1, X2, X3, L⟩ with _ | _
            · rw [hb] at hN he
              have he : e = 24 := he
              subst he
              (repeat' first | (refine Owe.same ?_; first | refine Owe.o ?_ | refine Owe.mk ?_ ?_) | (refine Fork.same ?_; (first | refine fkY ?_ | refine fkF ?_ | ((first | refine fkD ?_ ?_ | refine fkN ?_ ?_ | refine fkM ?_ ?_) <;> intro h))) | ((first | refine OpsL.same ?_ | refine OpsDL.same ?_); first | refine oK hN rfl rfl rfl ?_) | refine MvQ.stay ?_)
              (refine rqK rfl ?_; (repeat' first | exact rfl | (refine qS ?_; constructor)))
            · rw [hb] at hN he
              have he : e = 0 := he
              subst he
              rw [if_pos rfl]
              (repeat' first | (refine Owe.same ?_; first | refine Owe.o ?_ | refine Owe.mk ?_ ?_) | (refine Fork.same ?_; (first | refine fkY ?_ | refine fkF ?_ | ((first | refine fkD ?_ ?_ | refine fkN ?_ ?_ | refine fkM ?_ ?_) <;> intro h))) | ((first | refine OpsL.same ?_ | refine OpsDL.same ?_); first | refine oK hN rfl rfl rfl ?_) | refine MvQ.stay ?_)
              (refine rqK rfl ?_; (repeat' first | exact rfl | (refine qS ?_; constructor)))
end Go.Pw

set_option linter.unusedVariables false
set_option maxHeartbeats 2000000
set_option maxRecDepth 100000
namespace Go.Pw
open Go Go.Proofs
end Go.Pw

set_option linter.unusedSimpArgs false
set_option linter.unusedVariables false
set_option maxHeartbeats 4000000
namespace Go.Pw
set_option maxRecDepth 2000
open Go Go.Proofs A1 A2 A3 A4
theorem rpE_nil {s : Si} {t : St8} {n : Int} : rpE s t n [] = spE s t n := by
  have e : anyN (ndB s t n []) (tkA s n).a.length = nedB s t n := by
    rw [nedB, ← anyN_mem (p := fun m => !decide (m ∈ t.d))]
    congr 1
    funext i
    simp [ndB]
  rw [rpE, spE, e]
  by_cases hw : wi n 0 ((s.tk.length : Int) - 1) = true
  · rw [if_pos hw, if_pos hw, spF]
    by_cases hx : n ∈ t.d
    · rw [if_pos hx, decide_eq_true hx]; rfl
    · rw [if_neg hx, decide_eq_false hx]
      rcases nedB s t n with _ | _
      · rfl
      · rfl
  · rw [if_neg hw, if_neg hw]
theorem C34 {s : Si} {l : List Int} : (SiOk s ∧ tkNs s l ∧ l.length ≤ 1000) → PFD Tryz.prog 34 [siv s, .c (ints l)] (vi .i64 (vaI s l)) := fun ⟨h, hl, hn⟩ => by
  have h6 := h.n
  refine pi1 fn34 ?_
  (repeat' first | (refine Owe.same ?_; first | refine Owe.o ?_ | refine Owe.mk ?_ ?_) | (refine Fork.same ?_; (first | refine fkD ?_ ?_ | refine fkN ?_ ?_ | refine fkM ?_ ?_) <;> intro h) | refine MvQ.stay ?_)
  refine Sat.lp0 (fun k : Nat => [(6, vi .i64 k), (5, vi .i64 (vaP s l k)), (1, .c (ints l)), (2, .c (.rp (siD s)))]) (fun k => k ≤ l.length) (fun k => l.length - k) 0 (Nat.zero_le _) (by ((first | refine qen ?_ | refine qvs ?_ | refine qeq ?_ | refine qst ?_ | refine qv ?_ | refine qc ?_ | refine qe ?_ | refine qcs ?_ | skip); (repeat' first | exact rfl | (refine qS ?_; constructor)))) ?_
  intro k hk
  have hb := vaP_bd h hl k hk
  refine Fork.dec (fun hlt => ?_) (fun hlt => ?_)
  · have hlt : k < l.length := by omega
    have h1 := hl k hlt
    have h2 := (h.t (l.getD k 0).toNat (by omega)).v
    (repeat' first | (refine Owe.same ?_; first | refine Owe.o ?_ | refine Owe.mk ?_ ?_) | (refine Fork.same ?_; (first | refine fkD ?_ ?_ | refine fkN ?_ ?_ | refine fkM ?_ ?_) <;> intro h) | refine MvQ.stay ?_)
    exact again0 (k + 1) hlt (by omega) (by ((first | refine qen ?_ | refine qvs ?_ | refine qeq ?_ | refine qst ?_ | refine qv ?_ | refine qc ?_ | refine qe ?_ | refine qcs ?_ | skip); (repeat' first | exact rfl | (refine qS ?_; constructor))))
  · obtain rfl : k = l.length := by omega
    (repeat' first | (refine Owe.same ?_; first | refine Owe.o ?_ | refine Owe.mk ?_ ?_) | (refine Fork.same ?_; (first | refine fkD ?_ ?_ | refine fkN ?_ ?_ | refine fkM ?_ ?_) <;> intro h) | refine MvQ.stay ?_)
    (refine rqK rfl ?_; (repeat' first | exact rfl | (refine qS ?_; constructor)))
end Go.Pw

set_option linter.unusedVariables false
set_option maxHeartbeats 2000000
set_option maxRecDepth 100000
namespace Go.Pw
open Go Go.Proofs
/-- moonpool/moonpoolbase.CopyInts -/
def lc14m : LCode :=
  (.seq (.region [⟨some 2, .mv (.const (.slice none 0 0)), none⟩]) (.seq (.region [⟨some 3, .lit false 3 1 [], none⟩, ⟨some 4, .mv (.tmp 0), none⟩, ⟨some 5, .append true 3 1 8 (.tmp
    3) (.tmp 4), none⟩, ⟨some 2, .mv (.tmp 5), none⟩]) .ret))
theorem low14m : lowF Tryz.prog [5] Tryz.f14 = some (6, lc14m.strip, [.tmp 2]) := by kernel_rfl
theorem fn14m : FnOk Tryz.prog 14 6 lc14m [.tmp 2] := ⟨Tryz.call14, [5], _, Tryz.func14, low14m⟩
end Go.Pw

set_option linter.unusedSimpArgs false
set_option linter.unusedVariables false
set_option maxHeartbeats 8000000
namespace Go.Pw
set_option maxRecDepth 2000
open Go Go.Proofs A1 A2 A3 A4
/-- A function of data takes a row of one's own, which is closed by that. -/
theorem CallD.frz {P : Program} {f : FuncId} {args args' : List V} {v : V} {id nx : Nat} {e : TypeId} {s m n : Nat} {g : Nat → List D} (h : PFD P f args' v) (hn : n ≤ m) (hlen : args.length = args'.length)
    (ha : ∀ (i : Nat) a a', args[i]? = some a → args'[i]? = some a' → (a = .c (.ms id n) ∧ a' = .c (.d (.sl s n g))) ∨ RI a a') : CallD P f args [(id, .row e s m g false)] nx v [] nx := by
  refine ⟨h.h.1, Nat.le_refl _, fun Γ w us hst _ hr => ?_⟩
  have hg : get [(id, Ent.row e s m g false)] id = some (.row e s m g false) := get_cons_same
  obtain ⟨b, hb, hok⟩ := hst.ok id _ hg
  have h1 := hst.freeze hg hb
  have hle : CxLe Γ (Γ.also fun k => k = b ∧ ∃ c, Γ.κ id = some c) := CxLe.also _ _
  have h2 : StoreOk (Γ.also fun k => k = b ∧ ∃ c, Γ.κ id = some c) w [] := storeOk_nil h1.im
  have hr' : RepL (Γ.also fun k => k = b ∧ ∃ c, Γ.κ id = some c) w args' us := by
    refine ⟨by rw [hr.1, hlen], fun i a' u ha' hu => ?_⟩
    have hi : i < args.length := by rw [hlen]; exact (List.getElem?_eq_some_iff.1 ha').1
    have hx := hr.2 i args[i] u (List.getElem?_eq_getElem hi) hu
    rcases ha i _ a' (List.getElem?_eq_getElem hi) ha' with ⟨e1, e2⟩ | hri
    · rw [e1] at hx
      subst e2
      cases hx with
      | c _ _ hx =>
        obtain ⟨b', hb', hd⟩ := ms_data hst hg hn hx
        rw [hb] at hb'; cases hb'
        exact .c _ _ (hd _ (fun k hk => .inl hk) (fun hc => .inr ⟨rfl, hc⟩))
    · exact hri _ _ _ (hx.mono hle (fun _ _ => rfl))
  refine (h.h.2.2 _ w us h2 (fun id _ h => absurd h (Nat.not_lt_zero _)) hr').mono fun e' w' ⟨u, Γ', q1, q2, q3, q4, q5, q6⟩ => ⟨u, Γ', q1, q2, q3, hle.trans q4, fun j _ => q5 j (by omega), ?_⟩
  refine Ext.trans (Γ' := Γ.also fun k => k = b ∧ ∃ c, Γ.κ id = some c) (w' := w) (σ' := []) ⟨rfl, rfl, rfl, Nat.le_refl _, fun k hk => .inl hk, fun k hk => ?_, fun _ _ => rfl, fun _ _ => rfl, fun _ _ _ => rfl, fun k hk => absurd hk not_live_nil⟩ q6
  rcases hk with hk | ⟨rfl, hcc⟩
  · exact .inl hk
  · rcases hst.or_live hg hb hcc with h3 | h3
    · exact .inl h3
    · exact .inr (.inr ⟨id, h3, hb⟩)
theorem C14z : PFD Tryz.prog 14 [.c (.d (.sl 0 0 fun _ => []))] (.c .z) := by
  refine pi1 fn14m ?_
  (repeat' first | (refine Owe.same ?_; first | refine Owe.o ?_ | refine Owe.mk ?_ ?_) | (refine Fork.same ?_; (first | refine fkD ?_ ?_ | refine fkN ?_ ?_ | refine fkM ?_ ?_) <;> intro h) | refine MvQ.stay ?_)
  (refine rqK rfl ?_; (repeat' first | exact rfl | (refine qS ?_; constructor)))
theorem DI.e {s s' : Nat} {f g : Nat → List D} : DI (.sl s 0 f) (.sl s' 0 g) := fun I w u h => by
  cases h with
  | slE => exact .slE _ _ _ _
  | sl _ _ _ ad c U hn hI hs hc hr => exact .slE _ _ _ _
theorem C14e {f : Nat → List D} : PFD Tryz.prog 14 [.c (.d (.sl 1 0 f))] (.c .z) := PFD.ri C14z (.cons (RI.cI DI.e) .nil)
/-- What is done or given is all but a set. -/
def Gv (s : Si) (t : St8) (l g : List Int) : Prop := ∀ m : Int, 0 ≤ m → m < s.tk.length → ((m ∈ t.d ∨ m ∈ g) ↔ m ∉ l)
theorem Gv.wo {s : Si} {t : St8} {l g : List Int} {k : Nat} (h : Gv s t l g) (hu : l.Nodup) (hk : k < l.length) (hd : ∀ m, m ∈ (nxS s t (l.getD k 0)).d ↔ m = l.getD k 0 ∨ m ∈ t.d) : Gv s (nxS s t (l.getD k 0)) (wo l k) g := fun m h0 h1 => by
  rw [hd, or_assoc, h m h0 h1, wo_filter hu hk, List.mem_filter]
  constructor
  · rintro (e | h2) ⟨h3, h4⟩
    · exact of_decide_eq_true h4 e
    · exact h2 h3
  · intro hm
    by_cases e : m = l.getD k 0
    · exact .inl e
    · exact .inr fun h2 => hm ⟨h2, decide_eq_true e⟩
theorem anyN_ext {f g : Nat → Bool} : ∀ {n : Nat}, (∀ i, i < n → f i = g i) → anyN f n = anyN g n
  | 0, _ => rfl
  | n + 1, h => by rw [anyN, anyN, anyN_ext fun i hi => h i (by omega), h n (by omega)]
end Go.Pw

set_option linter.unusedSimpArgs false
set_option linter.unusedVariables false
set_option maxHeartbeats 8000000
namespace Go.Pw
set_option maxRecDepth 2000
open Go Go.Proofs A1 A2 A3 A4
end Go.Pw

set_option linter.unusedSimpArgs false
set_option linter.unusedVariables false
set_option maxHeartbeats 8000000
namespace Go.Pw
set_option maxRecDepth 2000
open Go Go.Proofs A1 A2 A3 A4
end Go.Pw

set_option linter.unusedSimpArgs false
set_option linter.unusedVariables false
set_option maxHeartbeats 8000000
namespace Go.Pw
set_option maxRecDepth 2000
open Go Go.Proofs A1 A2 A3 A4
mutual
/-- The best plan of those that begin with a plan, of the permitted tasks. -/
def gpF (pm : Nat → Bool) (s : Si) : Nat → St8 → List Int → List Int × Int → List Int × Int
  | 0, _, p, b => updP s p b
  | f + 1, t, p, b => gpK pm s f t p (updP s p b) s.tk.length
def gpK (pm : Nat → Bool) (s : Si) (f : Nat) (t : St8) (p : List Int) (b : List Int × Int) : Nat → List Int × Int
  | 0 => b
  | k + 1 => if pm k = true ∧ spE s t k = 0 then gpF pm s f (spS s t k) (p ++ [(k : Int)]) (gpK pm s f t p b k) else gpK pm s f t p b k
end
abbrev gstp (g : FuncId) (rows : List (List D)) (s : Si) (t0 : St8) (b : List Int × Int) : Store :=
  [(6, .box [.fn 126 [5, 3, 6]]), (5, .box [.yd 4]), (4, .lp [(2, .c (.rp (diD s t0))), (6, .c (.bp 0 0)), (7, .c (.bp 1 0)), (12, .c (.fn 125 [3, 2]))] .ready none (RR Tryz.prog 26 [13] ra67 rb67)), (3, .box [.fnR g rows]), (1, .box [int b.2]), (0, .box [ints b.1])]
theorem G120p {g : FuncId} {rows : List (List D)} {pm : Nat → Bool} {s : Si} {t0 : St8} (hg : ∀ k, k < s.tk.length → PFD Tryz.prog g (vi .i64 k :: rows.map fun r => .c (.rp r)) (vbl (pm k))) (hO : SiOk s) (hs : TkSm s.tk) (hst : ∀ {t : St8} {k : Nat}, OnOk s t → spE s t k = 0 → OnOk s (spS s t k) ∧ (spS s t k).d.length = t.d.length + 1) (hd : ∀ {t : St8}, OnOk s t → t.d.length ≤ s.tk.length) :
    ∀ (f : Nat) (t : St8) (p : List Int) (b : List Int × Int), OnOk s t → s.tk.length + 1 ≤ f + t.d.length → tkNs s p → p.length + s.tk.length ≤ 100 + t.d.length →
      CallD Tryz.prog 126 [div s t, .c (ints p), .c (.bp 5 0), .c (.bp 3 0), .c (.bp 6 0)] (gstp g rows s t0 b) 7 (.c .tru) (gstp g rows s t0 (gpF pm s f t p b)) 7
  | 0, t, p, b, h, hf, _, _ => by have := hd h; omega
  | f + 1, t, p, b, h, hf, hp, hl => by
    have h6 := hO.n
    have hdl := hd h
    have HO := h
    have c1 := C81 (s := s) (l := p) ⟨hO, hp, by omega⟩
    refine CallD.of (vs := [.c .tru]) fn126m rfl rfl (by (refine qis ?_ ?_ <;> (repeat' first | exact rfl | (refine qS ?_; constructor)))) ?_
    refine Ops.yd rfl rfl rfl rfl rfl ?_
    (repeat' first | (refine Owe.same ?_; first | refine Owe.o ?_ | refine Owe.mk ?_ ?_) | (refine Fork.same ?_; (first | refine fkD ?_ ?_ | refine fkN ?_ ?_ | refine fkM ?_ ?_) <;> intro h) | refine MvQ.stay ?_)
    refine And.intro rfl (Exists.intro _ (And.intro rfl ?_))
    (repeat' first | (refine Owe.same ?_; first | refine Owe.o ?_ | refine Owe.mk ?_ ?_) | (refine Fork.same ?_; (first | refine fkD ?_ ?_ | refine fkN ?_ ?_ | refine fkM ?_ ?_) <;> intro h) | ((first | refine OpsL.same ?_ | refine OpsDL.same ?_); first | refine pK c1 rfl rfl ?_ | refine pK (C80d (l := p) (by omega)) rfl rfl ?_) | refine MvQ.stay ?_)
    · rename_i h0
      have e : updP s p b = (p, vaI s p) := if_pos h
      refine Exists.intro _ (Exists.intro _ (Exists.intro _ (And.intro rfl ?_)))
      (repeat' first | (refine Owe.same ?_; first | refine Owe.o ?_ | refine Owe.mk ?_ ?_) | (refine Fork.same ?_; (first | refine fkD ?_ ?_ | refine fkN ?_ ?_ | refine fkM ?_ ?_) <;> intro h) | refine MvQ.stay ?_)
      refine Sat.lp (fun ((k, B) : Nat × List Int × Int) => ⟨[(19, vi .i64 k), (18, vi .i64 s.tk.length), (5, .c (.rp (diD s t))), (1, .c (ints p)), (2, .c (.bp 5 0)), (3, .c (.bp 3 0)), (4, .c (.bp 6 0))], gstp g rows s t0 B, 7⟩) (fun ((k, B) : Nat × List Int × Int) => k ≤ s.tk.length ∧ B = gpK pm s f t p (p, vaI s p) k) (fun ((k, _) : Nat × List Int × Int) => s.tk.length - k) (0, (p, vaI s p)) [] ⟨Nat.zero_le _, by rw [gpK]⟩ ?_ ?_
      · (refine qis ?_ ?_ <;> (repeat' first | exact rfl | (refine qS ?_; constructor)))
      · intro ⟨k, B⟩ ⟨hk, hB⟩
        refine Fork.dec (fun hlt => ?_) (fun hlt => ?_)
        · have hlt : k < s.tk.length := by omega
          have c2 := C78 (s := s) (t := t) (n := (k : Int)) ⟨HO, by omega, hs⟩
          obtain ⟨E, hE⟩ : ∃ E, E = spE s t (k : Int) := ⟨_, rfl⟩
          rw [← hE] at c2
          have c3 := C127 (l := p) (by omega)
          have c0 := hg k hlt
          rcases hpm : pm k with _ | _
          · rw [hpm] at c0
            (repeat' first | (refine Owe.same ?_; first | refine Owe.o ?_ | refine Owe.mk ?_ ?_) | (refine Fork.same ?_; (first | refine fkD ?_ ?_ | refine fkN ?_ ?_ | refine fkM ?_ ?_) <;> intro h) | ((first | refine OpsL.same ?_ | refine OpsDL.same ?_); first | refine pR c0 rfl rfl ?_) | refine MvQ.stay ?_)
            rotate_left
            · exact absurd h (by decide)
            have hB2 : B = gpK pm s f t p (p, vaI s p) (k + 1) := by rw [gpK, if_neg (fun hh => by rw [hpm] at hh; cases hh.1), ← hB]
            refine again (k + 1, B) [] ⟨hlt, hB2⟩ (by show s.tk.length - (k + 1) < s.tk.length - k; omega) ?_
            (refine qis ?_ ?_ <;> (repeat' first | exact rfl | (refine qS ?_; constructor)))
          rw [hpm] at c0
          (repeat' first | (refine Owe.same ?_; first | refine Owe.o ?_ | refine Owe.mk ?_ ?_) | (refine Fork.same ?_; (first | refine fkD ?_ ?_ | refine fkN ?_ ?_ | refine fkM ?_ ?_) <;> intro h) | ((first | refine OpsL.same ?_ | refine OpsDL.same ?_); first | refine pR c0 rfl rfl ?_) | refine MvQ.stay ?_)
          · exact absurd h (by decide)
          (repeat' first | (refine Owe.same ?_; first | refine Owe.o ?_ | refine Owe.mk ?_ ?_) | (refine Fork.same ?_; (first | refine fkD ?_ ?_ | refine fkN ?_ ?_ | refine fkM ?_ ?_) <;> intro h) | ((first | refine OpsL.same ?_ | refine OpsDL.same ?_); first | refine pK c2 rfl rfl ?_ | refine pK c3 rfl rfl ?_) | refine MvQ.stay ?_)
          · have hz : spE s t (k : Int) = 0 := hE.symm.trans h
            have h1 := hst HO hz
            have h2 : tkNs s (p ++ [(k : Int)]) := tkNs_app hp ⟨by omega, by omega⟩
            refine OpsDL.cm (gstp g rows s t0 B) _ ((G120p hg hO hs hst hd f (spS s t k) (p ++ [(k : Int)]) B h1.1 (by omega) h2 (by rw [List.length_append]; show p.length + 1 + _ ≤ _; omega)).at _) (sub_cons rfl (sub_cons rfl (sub_cons rfl (sub_cons rfl (sub_cons rfl (sub_cons rfl sub_nil)))))) rfl rfl ?_ ?_
            · refine VEqs.ris (qvs ?_)
              (repeat' first | exact rfl | (refine qS ?_; constructor))
              exact ⟨_, rfl, rfl⟩
            · (repeat' first | (refine Owe.same ?_; first | refine Owe.o ?_ | refine Owe.mk ?_ ?_) | (refine Fork.same ?_; (first | refine fkD ?_ ?_ | refine fkN ?_ ?_ | refine fkM ?_ ?_) <;> intro h) | refine MvQ.stay ?_)
              have hB2 : gpF pm s f (spS s t k) (p ++ [(k : Int)]) B = gpK pm s f t p (p, vaI s p) (k + 1) := by rw [gpK, if_pos ⟨hpm, hz⟩, ← hB]
              refine again (k + 1, _) [] ⟨hlt, hB2⟩ (by show s.tk.length - (k + 1) < s.tk.length - k; omega) ?_
              (refine qis ?_ ?_ <;> (repeat' first | exact rfl | (refine qS ?_; constructor)))
          · have hB2 : B = gpK pm s f t p (p, vaI s p) (k + 1) := by rw [gpK, if_neg (fun hh => h (hE.trans hh.2)), ← hB]
            refine again (k + 1, B) [] ⟨hlt, hB2⟩ (by show s.tk.length - (k + 1) < s.tk.length - k; omega) ?_
            (refine qis ?_ ?_ <;> (repeat' first | exact rfl | (refine qS ?_; constructor)))
        · have hkk : k = s.tk.length := by omega
          have hfin : gpF pm s (f + 1) t p b = B := by rw [gpF, e, ← hkk, hB]
          rw [hfin]
          (repeat' first | (refine Owe.same ?_; first | refine Owe.o ?_ | refine Owe.mk ?_ ?_) | (refine Fork.same ?_; (first | refine fkD ?_ ?_ | refine fkN ?_ ?_ | refine fkM ?_ ?_) <;> intro h) | refine MvQ.stay ?_)
          exact RetQ.is rfl
    · have e : updP s p b = b := if_neg h
      refine Exists.intro _ (Exists.intro _ (Exists.intro _ (And.intro rfl ?_)))
      (repeat' first | (refine Owe.same ?_; first | refine Owe.o ?_ | refine Owe.mk ?_ ?_) | (refine Fork.same ?_; (first | refine fkD ?_ ?_ | refine fkN ?_ ?_ | refine fkM ?_ ?_) <;> intro h) | refine MvQ.stay ?_)
      refine Sat.lp (fun ((k, B) : Nat × List Int × Int) => ⟨[(19, vi .i64 k), (18, vi .i64 s.tk.length), (5, .c (.rp (diD s t))), (1, .c (ints p)), (2, .c (.bp 5 0)), (3, .c (.bp 3 0)), (4, .c (.bp 6 0))], gstp g rows s t0 B, 7⟩) (fun ((k, B) : Nat × List Int × Int) => k ≤ s.tk.length ∧ B = gpK pm s f t p b k) (fun ((k, _) : Nat × List Int × Int) => s.tk.length - k) (0, b) [] ⟨Nat.zero_le _, by rw [gpK]⟩ ?_ ?_
      · (refine qis ?_ ?_ <;> (repeat' first | exact rfl | (refine qS ?_; constructor)))
      · intro ⟨k, B⟩ ⟨hk, hB⟩
        refine Fork.dec (fun hlt => ?_) (fun hlt => ?_)
        · have hlt : k < s.tk.length := by omega
          have c2 := C78 (s := s) (t := t) (n := (k : Int)) ⟨HO, by omega, hs⟩
          obtain ⟨E, hE⟩ : ∃ E, E = spE s t (k : Int) := ⟨_, rfl⟩
          rw [← hE] at c2
          have c3 := C127 (l := p) (by omega)
          have c0 := hg k hlt
          rcases hpm : pm k with _ | _
          · rw [hpm] at c0
            (repeat' first | (refine Owe.same ?_; first | refine Owe.o ?_ | refine Owe.mk ?_ ?_) | (refine Fork.same ?_; (first | refine fkD ?_ ?_ | refine fkN ?_ ?_ | refine fkM ?_ ?_) <;> intro h) | ((first | refine OpsL.same ?_ | refine OpsDL.same ?_); first | refine pR c0 rfl rfl ?_) | refine MvQ.stay ?_)
            rotate_left
            · exact absurd h (by decide)
            have hB2 : B = gpK pm s f t p b (k + 1) := by rw [gpK, if_neg (fun hh => by rw [hpm] at hh; cases hh.1), ← hB]
            refine again (k + 1, B) [] ⟨hlt, hB2⟩ (by show s.tk.length - (k + 1) < s.tk.length - k; omega) ?_
            (refine qis ?_ ?_ <;> (repeat' first | exact rfl | (refine qS ?_; constructor)))
          rw [hpm] at c0
          (repeat' first | (refine Owe.same ?_; first | refine Owe.o ?_ | refine Owe.mk ?_ ?_) | (refine Fork.same ?_; (first | refine fkD ?_ ?_ | refine fkN ?_ ?_ | refine fkM ?_ ?_) <;> intro h) | ((first | refine OpsL.same ?_ | refine OpsDL.same ?_); first | refine pR c0 rfl rfl ?_) | refine MvQ.stay ?_)
          · exact absurd h (by decide)
          (repeat' first | (refine Owe.same ?_; first | refine Owe.o ?_ | refine Owe.mk ?_ ?_) | (refine Fork.same ?_; (first | refine fkD ?_ ?_ | refine fkN ?_ ?_ | refine fkM ?_ ?_) <;> intro h) | ((first | refine OpsL.same ?_ | refine OpsDL.same ?_); first | refine pK c2 rfl rfl ?_ | refine pK c3 rfl rfl ?_) | refine MvQ.stay ?_)
          · have hz : spE s t (k : Int) = 0 := hE.symm.trans h
            have h1 := hst HO hz
            have h2 : tkNs s (p ++ [(k : Int)]) := tkNs_app hp ⟨by omega, by omega⟩
            refine OpsDL.cm (gstp g rows s t0 B) _ ((G120p hg hO hs hst hd f (spS s t k) (p ++ [(k : Int)]) B h1.1 (by omega) h2 (by rw [List.length_append]; show p.length + 1 + _ ≤ _; omega)).at _) (sub_cons rfl (sub_cons rfl (sub_cons rfl (sub_cons rfl (sub_cons rfl (sub_cons rfl sub_nil)))))) rfl rfl ?_ ?_
            · refine VEqs.ris (qvs ?_)
              (repeat' first | exact rfl | (refine qS ?_; constructor))
              exact ⟨_, rfl, rfl⟩
            · (repeat' first | (refine Owe.same ?_; first | refine Owe.o ?_ | refine Owe.mk ?_ ?_) | (refine Fork.same ?_; (first | refine fkD ?_ ?_ | refine fkN ?_ ?_ | refine fkM ?_ ?_) <;> intro h) | refine MvQ.stay ?_)
              have hB2 : gpF pm s f (spS s t k) (p ++ [(k : Int)]) B = gpK pm s f t p b (k + 1) := by rw [gpK, if_pos ⟨hpm, hz⟩, ← hB]
              refine again (k + 1, _) [] ⟨hlt, hB2⟩ (by show s.tk.length - (k + 1) < s.tk.length - k; omega) ?_
              (refine qis ?_ ?_ <;> (repeat' first | exact rfl | (refine qS ?_; constructor)))
          · have hB2 : B = gpK pm s f t p b (k + 1) := by rw [gpK, if_neg (fun hh => h (hE.trans hh.2)), ← hB]
            refine again (k + 1, B) [] ⟨hlt, hB2⟩ (by show s.tk.length - (k + 1) < s.tk.length - k; omega) ?_
            (refine qis ?_ ?_ <;> (repeat' first | exact rfl | (refine qS ?_; constructor)))
        · have hkk : k = s.tk.length := by omega
          have hfin : gpF pm s (f + 1) t p b = B := by rw [gpF, e, ← hkk, hB]
          rw [hfin]
          (repeat' first | (refine Owe.same ?_; first | refine Owe.o ?_ | refine Owe.mk ?_ ?_) | (refine Fork.same ?_; (first | refine fkD ?_ ?_ | refine fkN ?_ ?_ | refine fkM ?_ ?_) <;> intro h) | refine MvQ.stay ?_)
          exact RetQ.is rfl
/-- The best plan of the permitted tasks, and its value. -/
abbrev bestPp (pm : Nat → Bool) (s : Si) (t : St8) : List Int × Int := gpF pm s (s.tk.length + 1) t [] ([], 0)
theorem C67p {g : FuncId} {rows : List (List D)} {pm : Nat → Bool} {s : Si} {t : St8} (hg : ∀ k, k < s.tk.length → PFD Tryz.prog g (vi .i64 k :: rows.map fun r => .c (.rp r)) (vbl (pm k))) : (OnOk s t ∧ TkSm s.tk) → PFD Tryz.prog 67 [div s t, .c (.fnR g rows)] (.tup [.c (ints (bestPp pm s t).1), vi .i64 (bestPp pm s t).2]) := fun ⟨h, hs⟩ => by
  have h6 := h.ok.n
  have gg := G120p hg (t0 := t) h.ok hs (fun {t' k} h1 h2 => by
    obtain ⟨⟨e, _⟩, h3, h4⟩ := spS_ok h1 h2
    rw [e]; exact ⟨h3, h4⟩) (fun h => h.dl) (s.tk.length + 1) t [] ([], 0) h (by omega) (fun k hk => by cases hk) (by show 0 + _ ≤ _; omega)
  obtain ⟨B, hB⟩ : ∃ B, B = bestPp pm s t := ⟨_, rfl⟩
  change CallD _ _ _ _ _ _ (gstp g rows s t (bestPp pm s t)) _ at gg
  rw [← hB] at gg ⊢
  refine pi2 fn67 ?_
  (repeat' first | (refine Owe.same ?_; first | refine Owe.o ?_ | refine Owe.mk ?_ ?_) | (refine Fork.same ?_; (first | refine fkD ?_ ?_ | refine fkN ?_ ?_ | refine fkM ?_ ?_) <;> intro h) | refine MvQ.stay ?_)
  refine Ops.cs rfl rfl (CallS.of fn103 rfl ?_)
  (repeat' first | (refine Owe.same ?_; first | refine Owe.o ?_ | refine Owe.mk ?_ ?_) | (refine Fork.same ?_; (first | refine fkD ?_ ?_ | refine fkN ?_ ?_ | refine fkM ?_ ?_) <;> intro h) | refine MvQ.stay ?_)
  refine Sat.keep [2, 6, 7, 12] ?_
  refine Sat.rf rfl rfl (CallS.of fn125 rfl ?_)
  (repeat' first | (refine Owe.same ?_; first | refine Owe.o ?_ | refine Owe.mk ?_ ?_) | (refine Fork.same ?_; (first | refine fkD ?_ ?_ | refine fkN ?_ ?_ | refine fkM ?_ ?_) <;> intro h) | refine MvQ.stay ?_)
  refine OpsL.is7 (⟨[(6, .c (.fn 126 [5, 3, 6])), (7, div s t)], [(6, .box [.fn 126 [5, 3, 6]]), (5, .box [.yd 4]), (4, .lp [(2, .c (.rp (diD s t))), (6, .c (.bp 0 0)), (7, .c (.bp 1 0)), (12, .c (.fn 125 [3, 2]))] .ready none (RR Tryz.prog 26 [13] ra67 rb67)), (3, .box [.fnR g rows]), (2, .box (diC s t)), (1, .box [int 0]), (0, .box [ints []])], 7⟩) ?_ ?_
  · (refine qis ?_ ?_ <;> (repeat' first | exact rfl | (refine qS ?_; constructor)))
  refine OpsL.cmi (gstp g rows s t ([], 0)) _ (gg.at _) (sub_cons rfl (sub_cons rfl (sub_cons rfl (sub_cons rfl (sub_cons rfl (sub_cons rfl sub_nil)))))) rfl rfl ?_ ?_
  · refine VEqs.ris (qvs ?_)
    (repeat' first | exact rfl | (refine qS ?_; constructor))
  · (repeat' first | (refine Owe.same ?_; first | refine Owe.o ?_ | refine Owe.mk ?_ ?_) | (refine Fork.same ?_; (first | refine fkD ?_ ?_ | refine fkN ?_ ?_ | refine fkM ?_ ?_) <;> intro h) | refine MvQ.stay ?_)
    (refine rqK rfl ?_; (repeat' first | exact rfl | (refine qS ?_; constructor)))
end Go.Pw

set_option linter.unusedSimpArgs false
set_option linter.unusedVariables false
set_option maxHeartbeats 8000000
namespace Go.Pw
set_option maxRecDepth 2000
open Go Go.Proofs A1 A2 A3 A4
theorem C77r {s : Si} {t : St8} {p q g : List Int} {w : Int} {v : V} {id nx n m : Nat} {e : TypeId} {f : Nat → List D} (hn : n = p.length) (hm : n ≤ m) (hf : ∀ i, i < n → f i = r1 (p.getD i 0)) (h : PFD Tryz.prog 77 [siv s, stv t, .c (ints p), .c (ints q), vi .i64 w, .c (ints g)] v) :
    CallD Tryz.prog 77 [siv s, stv t, .c (.ms id n), .c (ints q), vi .i64 w, .c (ints g)] [(id, .row e 1 m f false)] nx v [] nx := by
  have c : PFD Tryz.prog 77 [siv s, stv t, .c (.d (.sl 1 n f)), .c (ints q), vi .i64 w, .c (ints g)] v := by
    refine PFD.ri h (.cons (RI.refl _) (.cons (RI.refl _) (.cons (RI.cI ?_) (.cons (RI.refl _) (.cons (RI.refl _) (.cons (RI.refl _) .nil))))))
    subst hn
    exact DI.sl fun i hi => by rw [hf i hi]; exact DIs.refl _
  refine CallD.frz c hm rfl fun i a a' ha ha' => ?_
  match i with
  | 0 => simp at ha ha'; subst ha; subst ha'; exact .inr (RI.refl _)
  | 1 => simp at ha ha'; subst ha; subst ha'; exact .inr (RI.refl _)
  | 2 => simp at ha ha'; subst ha; subst ha'; exact .inl ⟨rfl, rfl⟩
  | 3 => simp at ha ha'; subst ha; subst ha'; exact .inr (RI.refl _)
  | 4 => simp at ha ha'; subst ha; subst ha'; exact .inr (RI.refl _)
  | 5 => simp at ha ha'; subst ha; subst ha'; exact .inr (RI.refl _)
  | i + 6 => simp at ha
theorem C14q {nx m : Nat} {g : Nat → List D} (h : 0 < m ∧ m ≤ 1000000) (hx : nx = 4) : CallD Tryz.prog 14 [.c (.d (.sl 1 m g))] [] nx (.c (.ms nx m)) [(nx, .row 3 1 m g false)] (nx + 1) := by
  subst hx
  refine CallD.of (vs := [.c (.ms 4 m)]) fn14m rfl rfl (by (refine qis ?_ ?_ <;> (repeat' first | exact rfl | (refine qS ?_; constructor)))) ?_
  (repeat' first | (refine Owe.same ?_; first | refine Owe.o ?_ | refine Owe.mk ?_ ?_) | (refine Fork.same ?_; (first | refine fkD ?_ ?_ | refine fkN ?_ ?_ | refine fkM ?_ ?_) <;> intro h) | refine MvQ.stay ?_)
  exact RetQ.is rfl
abbrev pmL (g : List Int) (k : Nat) : Bool := !decide ((k : Int) ∈ g)
theorem C77 {s : Si} {g : List Int} (hO : SiOk s) (hs : TkSm s.tk) (hg : g.length ≤ 1000000) :
    ∀ (f : Nat) (t : St8) (p : List Int) (b : List Int × Int), OnOk s t → s.tk.length + 1 ≤ f + t.d.length → tkNs s p → p.length + s.tk.length ≤ 100 + t.d.length →
      PFD Tryz.prog 77 [siv s, stv t, .c (ints p), .c (ints b.1), vi .i64 b.2, .c (ints g)] (.tup [.c (ints (gpF (pmL g) s f t p b).1), vi .i64 (gpF (pmL g) s f t p b).2])
  | 0, t, p, b, h, hf, _, _ => by have := h.dl; omega
  | f + 1, t, p, b, h, hf, hp, hl => by
    have h6 := hO.n
    have hdl := h.dl
    have c34 := C34 (s := s) (l := p) ⟨hO, hp, by omega⟩
    have c14 := C14 (l := p) (by omega)
    have ih := fun {t : St8} {p : List Int} {b : List Int × Int} => C77 hO hs hg f t p b
    obtain ⟨Q, hQ⟩ : ∃ Q, Q = gpF (pmL g) s (f + 1) t p b := ⟨_, rfl⟩
    rw [← hQ]
    rw [gpF] at hQ
    by_cases hp0 : p = []
    · subst hp0
      by_cases hu : b.2 < vaI s []
      · have eu : updP s [] b = ([], vaI s []) := if_pos hu
        rw [eu] at hQ
        clear eu
        generalize hva : vaI s [] = va at *
        refine pi2 fn77 ?_
        (repeat' first | (refine Owe.same ?_; first | refine Owe.o ?_ | refine Owe.mk ?_ ?_) | (refine Fork.same ?_; (first | refine fkY ?_ | refine fkF ?_ | ((first | refine fkD ?_ ?_ | refine fkN ?_ ?_ | refine fkM ?_ ?_) <;> intro h))) | ((first | refine OpsL.same ?_ | refine OpsDL.same ?_); first | refine oK c34 rfl rfl rfl ?_ | refine oK c14 rfl rfl rfl ?_) | refine MvQ.stay ?_)
        refine Sat.lp0 (fun ((k, B) : Nat × List Int × Int) => [(15, vi .i64 k), (3, .c (ints B.1)), (4, vi .i64 B.2), (2, .c (ints [])), (5, .c (ints g)), (6, .c (.rp (siD s))), (7, .c (.rp (stD t)))]) (fun ((k, B) : Nat × List Int × Int) => k ≤ s.tk.length ∧ B = gpK (pmL g) s f t [] ([], va) k) (fun ((k, _) : Nat × List Int × Int) => s.tk.length - k) (0, ([], va)) ⟨Nat.zero_le _, by rw [gpK]⟩ (by ((first | refine qen ?_ | refine qvs ?_ | refine qeq ?_ | refine qst ?_ | refine qv ?_ | refine qc ?_ | refine qe ?_ | refine qcs ?_ | skip); (repeat' first | exact rfl | (refine qS ?_; constructor)))) ?_
        rintro ⟨k, B⟩ ⟨hk, hB⟩
        refine Fork.dec (fun hlt => ?_) (fun hlt => ?_)
        · have hlt : k < s.tk.length := by omega
          have c20 := C20 (l := g) (n := (k : Int)) (by omega)
          have c36 := C36 (s := s) (t := t) (n := (k : Int)) (g := []) ⟨h, hs, by decide⟩
          rw [rpE_nil] at c36
          by_cases hm : (k : Int) ∈ g
          · rw [decide_eq_true hm] at c20
            have hpm : pmL g k = false := by rw [pmL, decide_eq_true hm]; rfl
            have hB2 : B = gpK (pmL g) s f t [] ([], va) (k + 1) := by rw [gpK, if_neg (fun hh => by rw [hpm] at hh; cases hh.1), ← hB]
            (repeat' first | (refine Owe.same ?_; first | refine Owe.o ?_ | refine Owe.mk ?_ ?_) | (refine Fork.same ?_; (first | refine fkY ?_ | refine fkF ?_ | ((first | refine fkD ?_ ?_ | refine fkN ?_ ?_ | refine fkM ?_ ?_) <;> intro h))) | ((first | refine OpsL.same ?_ | refine OpsDL.same ?_); first | refine oK c20 rfl rfl rfl ?_) | refine MvQ.stay ?_)
            exact again0 (k + 1, B) ⟨hlt, hB2⟩ (by show s.tk.length - (k + 1) < s.tk.length - k; omega) (by ((first | refine qen ?_ | refine qvs ?_ | refine qeq ?_ | refine qst ?_ | refine qv ?_ | refine qc ?_ | refine qe ?_ | refine qcs ?_ | skip); (repeat' first | exact rfl | (refine qS ?_; constructor))))
          rw [decide_eq_false hm] at c20
          have hpm : pmL g k = true := by rw [pmL, decide_eq_false hm]; rfl
          by_cases hz : spE s t (k : Int) = 0
          rotate_left
          · have hB2 : B = gpK (pmL g) s f t [] ([], va) (k + 1) := by rw [gpK, if_neg (fun hh => hz hh.2), ← hB]
            rw [if_neg hz] at c36
            generalize spE s t (k : Int) = E at *
            (repeat' first | (refine Owe.same ?_; first | refine Owe.o ?_ | refine Owe.mk ?_ ?_) | (refine Fork.same ?_; (first | refine fkY ?_ | refine fkF ?_ | ((first | refine fkD ?_ ?_ | refine fkN ?_ ?_ | refine fkM ?_ ?_) <;> intro h))) | ((first | refine OpsL.same ?_ | refine OpsDL.same ?_); first | refine pK c20 rfl rfl ?_ | refine pK c36 rfl rfl ?_) | refine MvQ.stay ?_)
            exact again0 (k + 1, B) ⟨hlt, hB2⟩ (by show s.tk.length - (k + 1) < s.tk.length - k; omega) (by ((first | refine qen ?_ | refine qvs ?_ | refine qeq ?_ | refine qst ?_ | refine qv ?_ | refine qc ?_ | refine qe ?_ | refine qcs ?_ | skip); (repeat' first | exact rfl | (refine qS ?_; constructor))))
          · obtain ⟨⟨e1, _⟩, o1, o2⟩ := spS_ok h hz
            have hi := ih (p := [] ++ [(k : Int)]) (b := B) o1 (by omega) (tkNs_app (n := (k : Int)) hp ⟨by omega, by omega⟩) (by rw [List.length_append]; show 0 + 1 + _ ≤ _; simp only [List.length_nil] at hl; omega)
            have hB2 : gpF (pmL g) s f (spS s t (k : Int)) ([] ++ [(k : Int)]) B = gpK (pmL g) s f t [] ([], va) (k + 1) := by rw [gpK, if_pos ⟨hpm, hz⟩, ← hB]
            rw [e1] at hB2
            rw [hB2] at hi
            rw [if_pos hz, hz] at c36
            obtain ⟨B2, hBB⟩ : ∃ B2, B2 = gpK (pmL g) s f t [] ([], va) (k + 1) := ⟨_, rfl⟩
            rw [← hBB] at hi
            generalize nxS s t (k : Int) = X at *
            (repeat' first | (refine Owe.same ?_; first | refine Owe.o ?_ | refine Owe.mk ?_ ?_) | (refine Fork.same ?_; (first | refine fkY ?_ | refine fkF ?_ | ((first | refine fkD ?_ ?_ | refine fkN ?_ ?_ | refine fkM ?_ ?_) <;> intro h))) | ((first | refine OpsL.same ?_ | refine OpsDL.same ?_); first | refine pK c20 rfl rfl ?_ | refine pK c36 rfl rfl ?_ | refine pK C14e rfl rfl ?_) | refine MvQ.stay ?_)
            have hf0 : ∀ i, i < 1 → ([[dI (k : Int)]].getD i [] : List D) = r1 (([] ++ [(k : Int)] : List Int).getD i 0) := fun i hi => by
              match i, hi with
              | 0, _ => rfl
            have cr := fun {id nx} => C77r (id := id) (nx := nx) (n := 1) (m := 1) (e := 3) (f := fun i => [[dI (k : Int)]].getD i []) rfl (Nat.le_refl _) hf0 hi
            refine OpsDL.cm [(6, _)] [] cr (sub_cons rfl sub_nil) rfl rfl (RIs.rfl' _) ?_
            (repeat' first | (refine Owe.same ?_; first | refine Owe.o ?_ | refine Owe.mk ?_ ?_) | (refine Fork.same ?_; (first | refine fkD ?_ ?_ | refine fkN ?_ ?_ | refine fkM ?_ ?_) <;> intro h) | refine MvQ.stay ?_)
            exact again0 (k + 1, B2) ⟨hlt, hBB⟩ (by show s.tk.length - (k + 1) < s.tk.length - k; omega) (by ((first | refine qen ?_ | refine qvs ?_ | refine qeq ?_ | refine qst ?_ | refine qv ?_ | refine qc ?_ | refine qe ?_ | refine qcs ?_ | skip); (repeat' first | exact rfl | (refine qS ?_; constructor))))
        · obtain rfl : k = s.tk.length := by omega
          rw [← hB] at hQ
          subst hQ
          (repeat' first | (refine Owe.same ?_; first | refine Owe.o ?_ | refine Owe.mk ?_ ?_) | (refine Fork.same ?_; (first | refine fkD ?_ ?_ | refine fkN ?_ ?_ | refine fkM ?_ ?_) <;> intro h) | refine MvQ.stay ?_)
          (refine rqK rfl ?_; (repeat' first | exact rfl | (refine qS ?_; constructor)))
      · have eu : updP s [] b = b := if_neg hu
        rw [eu] at hQ
        clear eu
        generalize hva : vaI s [] = va at *
        refine pi2 fn77 ?_
        (repeat' first | (refine Owe.same ?_; first | refine Owe.o ?_ | refine Owe.mk ?_ ?_) | (refine Fork.same ?_; (first | refine fkY ?_ | refine fkF ?_ | ((first | refine fkD ?_ ?_ | refine fkN ?_ ?_ | refine fkM ?_ ?_) <;> intro h))) | ((first | refine OpsL.same ?_ | refine OpsDL.same ?_); first | refine oK c34 rfl rfl rfl ?_ | refine oK c14 rfl rfl rfl ?_) | refine MvQ.stay ?_)
        refine Sat.lp0 (fun ((k, B) : Nat × List Int × Int) => [(15, vi .i64 k), (3, .c (ints B.1)), (4, vi .i64 B.2), (2, .c (ints [])), (5, .c (ints g)), (6, .c (.rp (siD s))), (7, .c (.rp (stD t)))]) (fun ((k, B) : Nat × List Int × Int) => k ≤ s.tk.length ∧ B = gpK (pmL g) s f t [] b k) (fun ((k, _) : Nat × List Int × Int) => s.tk.length - k) (0, b) ⟨Nat.zero_le _, by rw [gpK]⟩ (by ((first | refine qen ?_ | refine qvs ?_ | refine qeq ?_ | refine qst ?_ | refine qv ?_ | refine qc ?_ | refine qe ?_ | refine qcs ?_ | skip); (repeat' first | exact rfl | (refine qS ?_; constructor)))) ?_
        rintro ⟨k, B⟩ ⟨hk, hB⟩
        refine Fork.dec (fun hlt => ?_) (fun hlt => ?_)
        · have hlt : k < s.tk.length := by omega
          have c20 := C20 (l := g) (n := (k : Int)) (by omega)
          have c36 := C36 (s := s) (t := t) (n := (k : Int)) (g := []) ⟨h, hs, by decide⟩
          rw [rpE_nil] at c36
          by_cases hm : (k : Int) ∈ g
          · rw [decide_eq_true hm] at c20
            have hpm : pmL g k = false := by rw [pmL, decide_eq_true hm]; rfl
            have hB2 : B = gpK (pmL g) s f t [] b (k + 1) := by rw [gpK, if_neg (fun hh => by rw [hpm] at hh; cases hh.1), ← hB]
            (repeat' first | (refine Owe.same ?_; first | refine Owe.o ?_ | refine Owe.mk ?_ ?_) | (refine Fork.same ?_; (first | refine fkY ?_ | refine fkF ?_ | ((first | refine fkD ?_ ?_ | refine fkN ?_ ?_ | refine fkM ?_ ?_) <;> intro h))) | ((first | refine OpsL.same ?_ | refine OpsDL.same ?_); first | refine oK c20 rfl rfl rfl ?_) | refine MvQ.stay ?_)
            exact again0 (k + 1, B) ⟨hlt, hB2⟩ (by show s.tk.length - (k + 1) < s.tk.length - k; omega) (by ((first | refine qen ?_ | refine qvs ?_ | refine qeq ?_ | refine qst ?_ | refine qv ?_ | refine qc ?_ | refine qe ?_ | refine qcs ?_ | skip); (repeat' first | exact rfl | (refine qS ?_; constructor))))
          rw [decide_eq_false hm] at c20
          have hpm : pmL g k = true := by rw [pmL, decide_eq_false hm]; rfl
          by_cases hz : spE s t (k : Int) = 0
          rotate_left
          · have hB2 : B = gpK (pmL g) s f t [] b (k + 1) := by rw [gpK, if_neg (fun hh => hz hh.2), ← hB]
            rw [if_neg hz] at c36
            generalize spE s t (k : Int) = E at *
            (repeat' first | (refine Owe.same ?_; first | refine Owe.o ?_ | refine Owe.mk ?_ ?_) | (refine Fork.same ?_; (first | refine fkY ?_ | refine fkF ?_ | ((first | refine fkD ?_ ?_ | refine fkN ?_ ?_ | refine fkM ?_ ?_) <;> intro h))) | ((first | refine OpsL.same ?_ | refine OpsDL.same ?_); first | refine pK c20 rfl rfl ?_ | refine pK c36 rfl rfl ?_) | refine MvQ.stay ?_)
            exact again0 (k + 1, B) ⟨hlt, hB2⟩ (by show s.tk.length - (k + 1) < s.tk.length - k; omega) (by ((first | refine qen ?_ | refine qvs ?_ | refine qeq ?_ | refine qst ?_ | refine qv ?_ | refine qc ?_ | refine qe ?_ | refine qcs ?_ | skip); (repeat' first | exact rfl | (refine qS ?_; constructor))))
          · obtain ⟨⟨e1, _⟩, o1, o2⟩ := spS_ok h hz
            have hi := ih (p := [] ++ [(k : Int)]) (b := B) o1 (by omega) (tkNs_app (n := (k : Int)) hp ⟨by omega, by omega⟩) (by rw [List.length_append]; show 0 + 1 + _ ≤ _; simp only [List.length_nil] at hl; omega)
            have hB2 : gpF (pmL g) s f (spS s t (k : Int)) ([] ++ [(k : Int)]) B = gpK (pmL g) s f t [] b (k + 1) := by rw [gpK, if_pos ⟨hpm, hz⟩, ← hB]
            rw [e1] at hB2
            rw [hB2] at hi
            rw [if_pos hz, hz] at c36
            obtain ⟨B2, hBB⟩ : ∃ B2, B2 = gpK (pmL g) s f t [] b (k + 1) := ⟨_, rfl⟩
            rw [← hBB] at hi
            generalize nxS s t (k : Int) = X at *
            (repeat' first | (refine Owe.same ?_; first | refine Owe.o ?_ | refine Owe.mk ?_ ?_) | (refine Fork.same ?_; (first | refine fkY ?_ | refine fkF ?_ | ((first | refine fkD ?_ ?_ | refine fkN ?_ ?_ | refine fkM ?_ ?_) <;> intro h))) | ((first | refine OpsL.same ?_ | refine OpsDL.same ?_); first | refine pK c20 rfl rfl ?_ | refine pK c36 rfl rfl ?_ | refine pK C14e rfl rfl ?_) | refine MvQ.stay ?_)
            have hf0 : ∀ i, i < 1 → ([[dI (k : Int)]].getD i [] : List D) = r1 (([] ++ [(k : Int)] : List Int).getD i 0) := fun i hi => by
              match i, hi with
              | 0, _ => rfl
            have cr := fun {id nx} => C77r (id := id) (nx := nx) (n := 1) (m := 1) (e := 3) (f := fun i => [[dI (k : Int)]].getD i []) rfl (Nat.le_refl _) hf0 hi
            refine OpsDL.cm [(6, _)] [] cr (sub_cons rfl sub_nil) rfl rfl (RIs.rfl' _) ?_
            (repeat' first | (refine Owe.same ?_; first | refine Owe.o ?_ | refine Owe.mk ?_ ?_) | (refine Fork.same ?_; (first | refine fkD ?_ ?_ | refine fkN ?_ ?_ | refine fkM ?_ ?_) <;> intro h) | refine MvQ.stay ?_)
            exact again0 (k + 1, B2) ⟨hlt, hBB⟩ (by show s.tk.length - (k + 1) < s.tk.length - k; omega) (by ((first | refine qen ?_ | refine qvs ?_ | refine qeq ?_ | refine qst ?_ | refine qv ?_ | refine qc ?_ | refine qe ?_ | refine qcs ?_ | skip); (repeat' first | exact rfl | (refine qS ?_; constructor))))
        · obtain rfl : k = s.tk.length := by omega
          rw [← hB] at hQ
          subst hQ
          (repeat' first | (refine Owe.same ?_; first | refine Owe.o ?_ | refine Owe.mk ?_ ?_) | (refine Fork.same ?_; (first | refine fkD ?_ ?_ | refine fkN ?_ ?_ | refine fkM ?_ ?_) <;> intro h) | refine MvQ.stay ?_)
          (refine rqK rfl ?_; (repeat' first | exact rfl | (refine qS ?_; constructor)))
    · by_cases hu : b.2 < vaI s p
      · have eu : updP s p b = (p, vaI s p) := if_pos hu
        rw [eu] at hQ
        clear eu
        generalize hva : vaI s p = va at *
        refine pi2 fn77 ?_
        (repeat' first | (refine Owe.same ?_; first | refine Owe.o ?_ | refine Owe.mk ?_ ?_) | (refine Fork.same ?_; (first | refine fkY ?_ | refine fkF ?_ | ((first | refine fkD ?_ ?_ | refine fkN ?_ ?_ | refine fkM ?_ ?_) <;> intro h))) | ((first | refine OpsL.same ?_ | refine OpsDL.same ?_); first | refine oK c34 rfl rfl rfl ?_ | refine oK c14 rfl rfl rfl ?_) | refine MvQ.stay ?_)
        refine Sat.lp0 (fun ((k, B) : Nat × List Int × Int) => [(15, vi .i64 k), (3, .c (ints B.1)), (4, vi .i64 B.2), (2, .c (ints p)), (5, .c (ints g)), (6, .c (.rp (siD s))), (7, .c (.rp (stD t)))]) (fun ((k, B) : Nat × List Int × Int) => k ≤ s.tk.length ∧ B = gpK (pmL g) s f t p (p, va) k) (fun ((k, _) : Nat × List Int × Int) => s.tk.length - k) (0, (p, va)) ⟨Nat.zero_le _, by rw [gpK]⟩ (by ((first | refine qen ?_ | refine qvs ?_ | refine qeq ?_ | refine qst ?_ | refine qv ?_ | refine qc ?_ | refine qe ?_ | refine qcs ?_ | skip); (repeat' first | exact rfl | (refine qS ?_; constructor)))) ?_
        rintro ⟨k, B⟩ ⟨hk, hB⟩
        refine Fork.dec (fun hlt => ?_) (fun hlt => ?_)
        · have hlt : k < s.tk.length := by omega
          have c20 := C20 (l := g) (n := (k : Int)) (by omega)
          have c36 := C36 (s := s) (t := t) (n := (k : Int)) (g := []) ⟨h, hs, by decide⟩
          rw [rpE_nil] at c36
          by_cases hm : (k : Int) ∈ g
          · rw [decide_eq_true hm] at c20
            have hpm : pmL g k = false := by rw [pmL, decide_eq_true hm]; rfl
            have hB2 : B = gpK (pmL g) s f t p (p, va) (k + 1) := by rw [gpK, if_neg (fun hh => by rw [hpm] at hh; cases hh.1), ← hB]
            (repeat' first | (refine Owe.same ?_; first | refine Owe.o ?_ | refine Owe.mk ?_ ?_) | (refine Fork.same ?_; (first | refine fkY ?_ | refine fkF ?_ | ((first | refine fkD ?_ ?_ | refine fkN ?_ ?_ | refine fkM ?_ ?_) <;> intro h))) | ((first | refine OpsL.same ?_ | refine OpsDL.same ?_); first | refine oK c20 rfl rfl rfl ?_) | refine MvQ.stay ?_)
            exact again0 (k + 1, B) ⟨hlt, hB2⟩ (by show s.tk.length - (k + 1) < s.tk.length - k; omega) (by ((first | refine qen ?_ | refine qvs ?_ | refine qeq ?_ | refine qst ?_ | refine qv ?_ | refine qc ?_ | refine qe ?_ | refine qcs ?_ | skip); (repeat' first | exact rfl | (refine qS ?_; constructor))))
          rw [decide_eq_false hm] at c20
          have hpm : pmL g k = true := by rw [pmL, decide_eq_false hm]; rfl
          by_cases hz : spE s t (k : Int) = 0
          rotate_left
          · have hB2 : B = gpK (pmL g) s f t p (p, va) (k + 1) := by rw [gpK, if_neg (fun hh => hz hh.2), ← hB]
            rw [if_neg hz] at c36
            generalize spE s t (k : Int) = E at *
            (repeat' first | (refine Owe.same ?_; first | refine Owe.o ?_ | refine Owe.mk ?_ ?_) | (refine Fork.same ?_; (first | refine fkY ?_ | refine fkF ?_ | ((first | refine fkD ?_ ?_ | refine fkN ?_ ?_ | refine fkM ?_ ?_) <;> intro h))) | ((first | refine OpsL.same ?_ | refine OpsDL.same ?_); first | refine pK c20 rfl rfl ?_ | refine pK c36 rfl rfl ?_) | refine MvQ.stay ?_)
            exact again0 (k + 1, B) ⟨hlt, hB2⟩ (by show s.tk.length - (k + 1) < s.tk.length - k; omega) (by ((first | refine qen ?_ | refine qvs ?_ | refine qeq ?_ | refine qst ?_ | refine qv ?_ | refine qc ?_ | refine qe ?_ | refine qcs ?_ | skip); (repeat' first | exact rfl | (refine qS ?_; constructor))))
          · obtain ⟨⟨e1, _⟩, o1, o2⟩ := spS_ok h hz
            have hi := ih (p := p ++ [(k : Int)]) (b := B) o1 (by omega) (tkNs_app (n := (k : Int)) hp ⟨by omega, by omega⟩) (by rw [List.length_append]; show p.length + 1 + _ ≤ _; omega)
            have hB2 : gpF (pmL g) s f (spS s t (k : Int)) (p ++ [(k : Int)]) B = gpK (pmL g) s f t p (p, va) (k + 1) := by rw [gpK, if_pos ⟨hpm, hz⟩, ← hB]
            rw [e1] at hB2
            rw [hB2] at hi
            rw [if_pos hz, hz] at c36
            obtain ⟨B2, hBB⟩ : ∃ B2, B2 = gpK (pmL g) s f t p (p, va) (k + 1) := ⟨_, rfl⟩
            rw [← hBB] at hi
            generalize nxS s t (k : Int) = X at *
            (repeat' first | (refine Owe.same ?_; first | refine Owe.o ?_ | refine Owe.mk ?_ ?_) | (refine Fork.same ?_; (first | refine fkY ?_ | refine fkF ?_ | ((first | refine fkD ?_ ?_ | refine fkN ?_ ?_ | refine fkM ?_ ?_) <;> intro h))) | ((first | refine OpsL.same ?_ | refine OpsDL.same ?_); first | refine pK c20 rfl rfl ?_ | refine pK c36 rfl rfl ?_) | refine MvQ.stay ?_)
            refine OpsDL.cd (C14q (m := p.length) (g := fun i => r1 (p.getD i 0)) ⟨List.length_pos_iff.2 hp0, by omega⟩ rfl) rfl rfl (RIs.rfl' _) ?_
            (repeat' first | (refine Owe.same ?_; first | refine Owe.o ?_ | refine Owe.mk ?_ ?_) | (refine Fork.same ?_; (first | refine fkD ?_ ?_ | refine fkN ?_ ?_ | refine fkM ?_ ?_) <;> intro h) | refine MvQ.stay ?_)
            have hf0 : ∀ i, i < p.length + 1 → (if i < p.length then r1 (p.getD i 0) else [[dI (k : Int)]].getD (i - p.length) []) = r1 ((p ++ [(k : Int)]).getD i 0) := fun i hi => by
              by_cases h1 : i < p.length
              · rw [if_pos h1]
                congr 1
                simp only [List.getD_eq_getElem?_getD]
                rw [List.getElem?_append_left h1]
              · obtain rfl : i = p.length := by omega
                rw [if_neg h1, Nat.sub_self]
                simp [List.getD_eq_getElem?_getD]
            have cr := fun {id nx} => C77r (id := id) (nx := nx) (n := p.length + 1) (m := p.length + 1) (e := 3) (f := fun i => if i < p.length then r1 (p.getD i 0) else [[dI (k : Int)]].getD (i - p.length) []) (by simp) (Nat.le_refl _) hf0 hi
            refine OpsDL.cm [(7, _)] [] cr (sub_cons rfl sub_nil) rfl rfl (RIs.rfl' _) ?_
            (repeat' first | (refine Owe.same ?_; first | refine Owe.o ?_ | refine Owe.mk ?_ ?_) | (refine Fork.same ?_; (first | refine fkD ?_ ?_ | refine fkN ?_ ?_ | refine fkM ?_ ?_) <;> intro h) | refine MvQ.stay ?_)
            exact again0 (k + 1, B2) ⟨hlt, hBB⟩ (by show s.tk.length - (k + 1) < s.tk.length - k; omega) (by ((first | refine qen ?_ | refine qvs ?_ | refine qeq ?_ | refine qst ?_ | refine qv ?_ | refine qc ?_ | refine qe ?_ | refine qcs ?_ | skip); (repeat' first | exact rfl | (refine qS ?_; constructor))))
        · obtain rfl : k = s.tk.length := by omega
          rw [← hB] at hQ
          subst hQ
          (repeat' first | (refine Owe.same ?_; first | refine Owe.o ?_ | refine Owe.mk ?_ ?_) | (refine Fork.same ?_; (first | refine fkD ?_ ?_ | refine fkN ?_ ?_ | refine fkM ?_ ?_) <;> intro h) | refine MvQ.stay ?_)
          (refine rqK rfl ?_; (repeat' first | exact rfl | (refine qS ?_; constructor)))
      · have eu : updP s p b = b := if_neg hu
        rw [eu] at hQ
        clear eu
        generalize hva : vaI s p = va at *
        refine pi2 fn77 ?_
        (repeat' first | (refine Owe.same ?_; first | refine Owe.o ?_ | refine Owe.mk ?_ ?_) | (refine Fork.same ?_; (first | refine fkY ?_ | refine fkF ?_ | ((first | refine fkD ?_ ?_ | refine fkN ?_ ?_ | refine fkM ?_ ?_) <;> intro h))) | ((first | refine OpsL.same ?_ | refine OpsDL.same ?_); first | refine oK c34 rfl rfl rfl ?_ | refine oK c14 rfl rfl rfl ?_) | refine MvQ.stay ?_)
        refine Sat.lp0 (fun ((k, B) : Nat × List Int × Int) => [(15, vi .i64 k), (3, .c (ints B.1)), (4, vi .i64 B.2), (2, .c (ints p)), (5, .c (ints g)), (6, .c (.rp (siD s))), (7, .c (.rp (stD t)))]) (fun ((k, B) : Nat × List Int × Int) => k ≤ s.tk.length ∧ B = gpK (pmL g) s f t p b k) (fun ((k, _) : Nat × List Int × Int) => s.tk.length - k) (0, b) ⟨Nat.zero_le _, by rw [gpK]⟩ (by ((first | refine qen ?_ | refine qvs ?_ | refine qeq ?_ | refine qst ?_ | refine qv ?_ | refine qc ?_ | refine qe ?_ | refine qcs ?_ | skip); (repeat' first | exact rfl | (refine qS ?_; constructor)))) ?_
        rintro ⟨k, B⟩ ⟨hk, hB⟩
        refine Fork.dec (fun hlt => ?_) (fun hlt => ?_)
        · have hlt : k < s.tk.length := by omega
          have c20 := C20 (l := g) (n := (k : Int)) (by omega)
          have c36 := C36 (s := s) (t := t) (n := (k : Int)) (g := []) ⟨h, hs, by decide⟩
          rw [rpE_nil] at c36
          by_cases hm : (k : Int) ∈ g
          · rw [decide_eq_true hm] at c20
            have hpm : pmL g k = false := by rw [pmL, decide_eq_true hm]; rfl
            have hB2 : B = gpK (pmL g) s f t p b (k + 1) := by rw [gpK, if_neg (fun hh => by rw [hpm] at hh; cases hh.1), ← hB]
            (repeat' first | (refine Owe.same ?_; first | refine Owe.o ?_ | refine Owe.mk ?_ ?_) | (refine Fork.same ?_; (first | refine fkY ?_ | refine fkF ?_ | ((first | refine fkD ?_ ?_ | refine fkN ?_ ?_ | refine fkM ?_ ?_) <;> intro h))) | ((first | refine OpsL.same ?_ | refine OpsDL.same ?_); first | refine oK c20 rfl rfl rfl ?_) | refine MvQ.stay ?_)
            exact again0 (k + 1, B) ⟨hlt, hB2⟩ (by show s.tk.length - (k + 1) < s.tk.length - k; omega) (by ((first | refine qen ?_ | refine qvs ?_ | refine qeq ?_ | refine qst ?_ | refine qv ?_ | refine qc ?_ | refine qe ?_ | refine qcs ?_ | skip); (repeat' first | exact rfl | (refine qS ?_; constructor))))
          rw [decide_eq_false hm] at c20
          have hpm : pmL g k = true := by rw [pmL, decide_eq_false hm]; rfl
          by_cases hz : spE s t (k : Int) = 0
          rotate_left
          · have hB2 : B = gpK (pmL g) s f t p b (k + 1) := by rw [gpK, if_neg (fun hh => hz hh.2), ← hB]
            rw [if_neg hz] at c36
            generalize spE s t (k : Int) = E at *
            (repeat' first | (refine Owe.same ?_; first | refine Owe.o ?_ | refine Owe.mk ?_ ?_) | (refine Fork.same ?_; (first | refine fkY ?_ | refine fkF ?_ | ((first | refine fkD ?_ ?_ | refine fkN ?_ ?_ | refine fkM ?_ ?_) <;> intro h))) | ((first | refine OpsL.same ?_ | refine OpsDL.same ?_); first | refine pK c20 rfl rfl ?_ | refine pK c36 rfl rfl ?_) | refine MvQ.stay ?_)
            exact again0 (k + 1, B) ⟨hlt, hB2⟩ (by show s.tk.length - (k + 1) < s.tk.length - k; omega) (by ((first | refine qen ?_ | refine qvs ?_ | refine qeq ?_ | refine qst ?_ | refine qv ?_ | refine qc ?_ | refine qe ?_ | refine qcs ?_ | skip); (repeat' first | exact rfl | (refine qS ?_; constructor))))
          · obtain ⟨⟨e1, _⟩, o1, o2⟩ := spS_ok h hz
            have hi := ih (p := p ++ [(k : Int)]) (b := B) o1 (by omega) (tkNs_app (n := (k : Int)) hp ⟨by omega, by omega⟩) (by rw [List.length_append]; show p.length + 1 + _ ≤ _; omega)
            have hB2 : gpF (pmL g) s f (spS s t (k : Int)) (p ++ [(k : Int)]) B = gpK (pmL g) s f t p b (k + 1) := by rw [gpK, if_pos ⟨hpm, hz⟩, ← hB]
            rw [e1] at hB2
            rw [hB2] at hi
            rw [if_pos hz, hz] at c36
            obtain ⟨B2, hBB⟩ : ∃ B2, B2 = gpK (pmL g) s f t p b (k + 1) := ⟨_, rfl⟩
            rw [← hBB] at hi
            generalize nxS s t (k : Int) = X at *
            (repeat' first | (refine Owe.same ?_; first | refine Owe.o ?_ | refine Owe.mk ?_ ?_) | (refine Fork.same ?_; (first | refine fkY ?_ | refine fkF ?_ | ((first | refine fkD ?_ ?_ | refine fkN ?_ ?_ | refine fkM ?_ ?_) <;> intro h))) | ((first | refine OpsL.same ?_ | refine OpsDL.same ?_); first | refine pK c20 rfl rfl ?_ | refine pK c36 rfl rfl ?_) | refine MvQ.stay ?_)
            refine OpsDL.cd (C14q (m := p.length) (g := fun i => r1 (p.getD i 0)) ⟨List.length_pos_iff.2 hp0, by omega⟩ rfl) rfl rfl (RIs.rfl' _) ?_
            (repeat' first | (refine Owe.same ?_; first | refine Owe.o ?_ | refine Owe.mk ?_ ?_) | (refine Fork.same ?_; (first | refine fkD ?_ ?_ | refine fkN ?_ ?_ | refine fkM ?_ ?_) <;> intro h) | refine MvQ.stay ?_)
            have hf0 : ∀ i, i < p.length + 1 → (if i < p.length then r1 (p.getD i 0) else [[dI (k : Int)]].getD (i - p.length) []) = r1 ((p ++ [(k : Int)]).getD i 0) := fun i hi => by
              by_cases h1 : i < p.length
              · rw [if_pos h1]
                congr 1
                simp only [List.getD_eq_getElem?_getD]
                rw [List.getElem?_append_left h1]
              · obtain rfl : i = p.length := by omega
                rw [if_neg h1, Nat.sub_self]
                simp [List.getD_eq_getElem?_getD]
            have cr := fun {id nx} => C77r (id := id) (nx := nx) (n := p.length + 1) (m := p.length + 1) (e := 3) (f := fun i => if i < p.length then r1 (p.getD i 0) else [[dI (k : Int)]].getD (i - p.length) []) (by simp) (Nat.le_refl _) hf0 hi
            refine OpsDL.cm [(7, _)] [] cr (sub_cons rfl sub_nil) rfl rfl (RIs.rfl' _) ?_
            (repeat' first | (refine Owe.same ?_; first | refine Owe.o ?_ | refine Owe.mk ?_ ?_) | (refine Fork.same ?_; (first | refine fkD ?_ ?_ | refine fkN ?_ ?_ | refine fkM ?_ ?_) <;> intro h) | refine MvQ.stay ?_)
            exact again0 (k + 1, B2) ⟨hlt, hBB⟩ (by show s.tk.length - (k + 1) < s.tk.length - k; omega) (by ((first | refine qen ?_ | refine qvs ?_ | refine qeq ?_ | refine qst ?_ | refine qv ?_ | refine qc ?_ | refine qe ?_ | refine qcs ?_ | skip); (repeat' first | exact rfl | (refine qS ?_; constructor))))
        · obtain rfl : k = s.tk.length := by omega
          rw [← hB] at hQ
          subst hQ
          (repeat' first | (refine Owe.same ?_; first | refine Owe.o ?_ | refine Owe.mk ?_ ?_) | (refine Fork.same ?_; (first | refine fkD ?_ ?_ | refine fkN ?_ ?_ | refine fkM ?_ ?_) <;> intro h) | refine MvQ.stay ?_)
          (refine rqK rfl ?_; (repeat' first | exact rfl | (refine qS ?_; constructor)))
end Go.Pw

set_option linter.unusedSimpArgs false
set_option linter.unusedVariables false
set_option maxHeartbeats 8000000
namespace Go.Pw
set_option maxRecDepth 2000
open Go Go.Proofs A1 A2 A3 A4
theorem gpF_ext {pm pm' : Nat → Bool} {s : Si} (h : ∀ k, k < s.tk.length → pm k = pm' k) : ∀ (f : Nat) (t : St8) (p : List Int) (b : List Int × Int), gpF pm s f t p b = gpF pm' s f t p b
  | 0, t, p, b => by rw [gpF, gpF]
  | f + 1, t, p, b => by
    have key : ∀ k, k ≤ s.tk.length → gpK pm s f t p (updP s p b) k = gpK pm' s f t p (updP s p b) k := fun k => by
      induction k with
      | zero => intro _; rw [gpK, gpK]
      | succ k ih => intro hk; rw [gpK, gpK, ih (by omega), gpF_ext h f, h k (by omega)]
    rw [gpF, gpF, key _ (Nat.le_refl _)]
theorem gpF_all {s : Si} : ∀ (f : Nat) (t : St8) (p : List Int) (b : List Int × Int), gpF (fun _ => true) s f t p b = grwF s f t p b
  | 0, t, p, b => by rw [gpF, grwF]
  | f + 1, t, p, b => by
    have key : ∀ k, gpK (fun _ => true) s f t p (updP s p b) k = grwK s f t p (updP s p b) k := fun k => by
      induction k with
      | zero => rw [gpK, grwK]
      | succ k ih => rw [gpK, grwK, ih, gpF_all f]; simp only [true_and]
    rw [gpF, grwF, key]
theorem bestPp_nil {s : Si} {t : St8} : bestPp (pmL []) s t = bestP s t := by
  rw [bestPp, gpF_ext (pm' := fun _ => true) (fun k _ => by simp [pmL]), gpF_all]
theorem C29 {s : Si} {t : St8} {g : List Int} : (OnOk s t ∧ TkSm s.tk ∧ g.length ≤ 1000000) → PFD Tryz.prog 29 [siv s, stv t, .c (ints g)] (.tup [.c (ints (bestPp (pmL g) s t).1), vi .i64 (bestPp (pmL g) s t).2]) := fun ⟨h, hs, hg⟩ => by
  have c1 := C77 h.ok hs hg (s.tk.length + 1) t [] ([], 0) h (by omega) (fun k hk => by cases hk) (by show 0 + _ ≤ _; have := h.ok.n; omega)
  change PFD Tryz.prog 77 _ (.tup [.c (ints (bestPp (pmL g) s t).1), vi .i64 (bestPp (pmL g) s t).2]) at c1
  generalize bestPp (pmL g) s t = B at *
  refine pi2 fn29 ?_
  (repeat' first | (refine Owe.same ?_; first | refine Owe.o ?_ | refine Owe.mk ?_ ?_) | (refine Fork.same ?_; (first | refine fkY ?_ | refine fkF ?_ | ((first | refine fkD ?_ ?_ | refine fkN ?_ ?_ | refine fkM ?_ ?_) <;> intro h))) | ((first | refine OpsL.same ?_ | refine OpsDL.same ?_); first | refine pK c1 rfl rfl ?_) | refine MvQ.stay ?_)
  (refine rqK rfl ?_; (repeat' first | exact rfl | (refine qS ?_; constructor)))
/-- Which of the first tasks depend on a task. -/
def dpL (s : Si) (n : Int) : Nat → List Bool
  | 0 => []
  | k + 1 => dpL s n k ++ [(s.tk.getD k tk0).a.any fun x => decide (x = n) || (dpL s n k).getD x.toNat false]
theorem dpL_len {s : Si} {n : Int} : ∀ k, (dpL s n k).length = k
  | 0 => rfl
  | k + 1 => by rw [dpL, List.length_append, dpL_len k]; rfl
theorem dpL_get {s : Si} {n : Int} {i : Nat} : ∀ {k m : Nat}, i < k → k ≤ m → (dpL s n m).getD i false = (dpL s n k).getD i false
  | k, 0, h, h1 => by omega
  | k, m + 1, h, h1 => by
    by_cases e : k = m + 1
    · subst e; rfl
    · have hl := dpL_len (s := s) (n := n) m
      rw [dpL, List.getD_eq_getElem?_getD, List.getElem?_append_left (by omega), ← List.getD_eq_getElem?_getD, dpL_get h (by omega)]
/-- A task depends on one. -/
abbrev dpB (s : Si) (n : Int) (i : Nat) : Bool := (dpL s n s.tk.length).getD i false
theorem dpL_at {s : Si} {n : Int} {i m : Nat} (hm : i < m) (h : m ≤ s.tk.length) : (dpL s n m).getD i false = dpB s n i := (dpL_get hm h).symm
theorem dpB_eq {s : Si} {n : Int} {i : Nat} (hO : SiOk s) (hi : i < s.tk.length) : dpB s n i = (s.tk.getD i tk0).a.any fun x => decide (x = n) || dpB s n x.toNat := by
  have hl := dpL_len (s := s) (n := n) i
  rw [dpB, dpL_get (k := i + 1) (by omega) (by omega), dpL, List.getD_eq_getElem?_getD, List.getElem?_append_right (by omega), hl, Nat.sub_self]
  show (List.any _ _) = _
  obtain ⟨s1, s2⟩ := Srt.of (hO.t i hi).a
  rw [← anyN_mem, ← anyN_mem]
  refine anyN_ext fun j hj => ?_
  have := s2 j hj
  rw [dpL_at (m := i) (by omega) (by omega)]
theorem dpB_lo {s : Si} {n : Int} (hO : SiOk s) : ∀ (i : Nat), i < s.tk.length → (i : Int) ≤ n → dpB s n i = false := fun i => by
  induction i using Nat.strongRecOn with
  | ind i ih =>
    intro hi hn
    rw [dpB_eq hO hi]
    obtain ⟨s1, s2⟩ := Srt.of (hO.t i hi).a
    refine List.any_eq_false.2 fun x hx => ?_
    obtain ⟨j, hj, e⟩ := List.getElem_of_mem hx
    have h2 := s2 j hj
    rw [List.getD_eq_getElem?_getD, List.getElem?_eq_getElem hj] at h2
    have h2 : 0 ≤ (s.tk.getD i tk0).a[j] ∧ (s.tk.getD i tk0).a[j] ≤ (i : Int) - 1 := h2
    rw [e] at h2
    rw [decide_eq_false (by omega), ih x.toNat (by omega) (by omega) (by omega)]
    decide
/-- The tasks that depend on a task. -/
abbrev depL (s : Si) (n : Int) (k : Nat) : List Int := fltL (dpB s n) k
end Go.Pw

set_option linter.unusedSimpArgs false
set_option linter.unusedVariables false
set_option maxHeartbeats 8000000
namespace Go.Pw
set_option maxRecDepth 2000
open Go Go.Proofs A1 A2 A3 A4
theorem dep_mem {s : Si} {n x : Int} {k : Nat} (h0 : 0 ≤ x) (hx : x < k) : decide (x ∈ depL s n k) = dpB s n x.toNat := by
  obtain ⟨j, rfl⟩ := Int.eq_ofNat_of_zero_le h0
  rw [Int.toNat_natCast]
  rcases hd : dpB s n j with _ | _
  · refine decide_eq_false fun h => ?_
    have := (fltL_mem.1 h).2
    rw [hd] at this; cases this
  · exact decide_eq_true (fltL_mem.2 ⟨by omega, hd⟩)
theorem dep_lo {s : Si} {n : Int} (hO : SiOk s) : ∀ (k : Nat), k ≤ s.tk.length → (k : Int) ≤ n + 1 → depL s n k = []
  | 0, _, _ => rfl
  | k + 1, h, hn => by
    have e : depL s n (k + 1) = if dpB s n k = true then depL s n k ++ [(k : Int)] else depL s n k := fltL_succ (dpB s n) k
    rw [e, dpB_lo hO k (by omega) (by omega), if_neg (by decide), dep_lo hO k (by omega) (by omega)]
theorem C27 {s : Si} {n : Int} : (SiOk s ∧ TkSm s.tk ∧ 0 ≤ n ∧ n < s.tk.length) → PFD Tryz.prog 27 [siv s, vi .i64 n] (.c (ints (depL s n s.tk.length))) := fun ⟨hO, hs, hn0, hn1⟩ => by
  have n6 := hO.n
  obtain ⟨k0, rfl⟩ := Int.eq_ofNat_of_zero_le hn0
  have e0 := dep_lo (n := (k0 : Int)) hO (k0 + 1) (by omega) (by omega)
  refine pi1 fn27 ?_
  (repeat' first | (refine Owe.same ?_; first | refine Owe.o ?_ | refine Owe.mk ?_ ?_) | (refine Fork.same ?_; (first | refine fkD ?_ ?_ | refine fkN ?_ ?_ | refine fkM ?_ ?_) <;> intro h) | refine MvQ.stay ?_)
  refine Sat.nilS 5 3 1 (fun i => r1 (([] : List Int).getD i 0)) rfl ?_
  refine Sat.lp (fun i : Nat => ⟨[(6, vi .i64 i), (5, .c (.ms 0 (depL s k0 i).length)), (1, vi .i64 k0), (2, .c (.rp (siD s)))], [(0, rowv 3 1 r1 0 (depL s k0 i))], 1⟩) (fun i => k0 + 1 ≤ i ∧ i ≤ s.tk.length) (fun i => s.tk.length - i) (k0 + 1) [0] ⟨Nat.le_refl _, by omega⟩ ?_ ?_
  · rw [e0]
    (refine qis ?_ ?_ <;> (repeat' first | exact rfl | (refine qS ?_; constructor)))
  intro i hi
  have hfl : (depL s k0 i).length ≤ i := fltL_len (dpB s k0) i
  have hfs : depL s k0 (i + 1) = if dpB s k0 i = true then depL s k0 i ++ [(i : Int)] else depL s k0 i := fltL_succ (dpB s k0) i
  refine Fork.dec (fun hlt => ?_) (fun hlt => ?_)
  · have hlt : i < s.tk.length := by omega
    have hal := (hs i hlt).2
    obtain ⟨s1, s2⟩ := Srt.of (hO.t i hlt).a
    obtain ⟨F, hF⟩ : ∃ F : Nat → Bool, ∀ j, F j = (decide ((s.tk.getD i tk0).a.getD j 0 = (k0 : Int)) || decide ((s.tk.getD i tk0).a.getD j 0 ∈ depL s k0 i)) := ⟨_, fun _ => rfl⟩
    have hFa : anyN F (s.tk.getD i tk0).a.length = dpB s k0 i := by
      rw [dpB_eq hO hlt, ← anyN_mem]
      refine anyN_ext fun j hj => ?_
      have h2 := s2 j hj
      rw [hF, dep_mem h2.1 (by omega)]
    obtain ⟨a, ha⟩ : ∃ a, a = (s.tk.getD i tk0).a := ⟨_, rfl⟩
    (repeat' first | (refine Owe.same ?_; first | refine Owe.o ?_ | refine Owe.mk ?_ ?_) | (refine Fork.same ?_; (first | refine fkD ?_ ?_ | refine fkN ?_ ?_ | refine fkM ?_ ?_) <;> intro h) | refine MvQ.stay ?_)
    refine Sat.lp (fun j : Nat => ⟨[(8, vi .i64 j), (7, vbl (anyN F j)), (6, vi .i64 i), (5, .c (.ms 0 (depL s k0 i).length)), (1, vi .i64 k0), (2, .c (.rp (siD s)))], [(0, rowv 3 1 r1 0 (depL s k0 i))], 1⟩) (fun j => j ≤ (s.tk.getD i tk0).a.length) (fun j => (s.tk.getD i tk0).a.length - j) 0 [0] (Nat.zero_le _) ?_ ?_
    · (refine qis ?_ ?_ <;> (repeat' first | exact rfl | (refine qS ?_; constructor)))
    intro j hj
    by_cases hlj : j < (s.tk.getD i tk0).a.length
    · have hlj' : (j : Int) < (s.tk.getD (i : Int).toNat tk0).a.length := by rw [Int.toNat_natCast]; omega
      have hFs : anyN F (j + 1) = (anyN F j || F j) := rfl
      have hFj := hF j
      rcases hb : anyN F j with _ | _
      · rw [hb, Bool.false_or] at hFs
        have hxe : (s.tk.getD (i : Int).toNat tk0).a.getD (j : Int).toNat 0 = (s.tk.getD i tk0).a.getD j 0 := by rw [Int.toNat_natCast, Int.toNat_natCast]
        by_cases hx : (s.tk.getD i tk0).a.getD j 0 = (k0 : Int)
        · rw [decide_eq_true hx, Bool.true_or] at hFj
          rw [hFj] at hFs
          have hx' := hxe.trans hx
          (repeat' first | (refine Owe.same ?_; first | refine Owe.o ?_ | refine Owe.mk ?_ ?_) | (refine Fork.same ?_; (first | refine fkD ?_ ?_ | refine fkN ?_ ?_ | refine fkM ?_ ?_) <;> intro h) | refine MvQ.stay ?_)
          all_goals try (exfalso; first | omega | contradiction)
          refine again (j + 1) [0] hlj (by omega) ?_
          rw [hFs]
          (refine qis ?_ ?_ <;> (repeat' first | exact rfl | (refine qS ?_; constructor)))
        · rw [decide_eq_false hx, Bool.false_or] at hFj
          have hx' : ¬ (s.tk.getD (i : Int).toNat tk0).a.getD (j : Int).toNat 0 = (k0 : Int) := by rw [hxe]; exact hx
          (repeat' first | (refine Owe.same ?_; first | refine Owe.o ?_ | refine Owe.mk ?_ ?_) | (refine Fork.same ?_; (first | refine fkD ?_ ?_ | refine fkN ?_ ?_ | refine fkM ?_ ?_) <;> intro h) | refine MvQ.stay ?_)
          all_goals try (exfalso; first | omega | contradiction)
          refine Ops.cs rfl rfl (CallS.of fn20 rfl ?_)
          (repeat' first | (refine Owe.same ?_; first | refine Owe.o ?_ | refine Owe.mk ?_ ?_) | (refine Fork.same ?_; (first | refine fkD ?_ ?_ | refine fkN ?_ ?_ | refine fkM ?_ ?_) <;> intro h) | refine MvQ.stay ?_)
          refine Sat.lp (fun m : Nat => ⟨[(5, vi .i64 m), (0, .c (.ms 0 (depL s k0 i).length)), (1, vi .i64 ((s.tk.getD i tk0).a.getD j 0))], [(0, rowv 3 1 r1 0 (depL s k0 i))], 1⟩) (fun m => m ≤ (depL s k0 i).length ∧ ∀ m', m' < m → (depL s k0 i).getD m' 0 ≠ (s.tk.getD i tk0).a.getD j 0) (fun m => (depL s k0 i).length - m) 0 [] ⟨Nat.zero_le _, fun m' h => by omega⟩ ?_ ?_
          · (refine qis ?_ ?_ <;> (repeat' first | exact rfl | (refine qS ?_; constructor)))
          intro m hm
          by_cases hlm : m < (depL s k0 i).length
          · by_cases he : (depL s k0 i).getD m 0 = (s.tk.getD i tk0).a.getD j 0
            · have hin : (s.tk.getD i tk0).a.getD j 0 ∈ depL s k0 i := by rw [← he]; exact getD_mem 0 hlm
              rw [decide_eq_true hin] at hFj
              rw [hFj] at hFs
              (repeat' first | (refine Owe.same ?_; first | refine Owe.o ?_ | refine Owe.mk ?_ ?_) | (refine Fork.same ?_; (first | refine fkD ?_ ?_ | refine fkN ?_ ?_ | refine fkM ?_ ?_) <;> intro h) | refine MvQ.stay ?_)
              all_goals try (exfalso; first | omega | contradiction)
              refine again (j + 1) [0] hlj (by omega) ?_
              rw [hFs]
              (refine qis ?_ ?_ <;> (repeat' first | exact rfl | (refine qS ?_; constructor)))
            · (repeat' first | (refine Owe.same ?_; first | refine Owe.o ?_ | refine Owe.mk ?_ ?_) | (refine Fork.same ?_; (first | refine fkD ?_ ?_ | refine fkN ?_ ?_ | refine fkM ?_ ?_) <;> intro h) | refine MvQ.stay ?_)
              all_goals try (exfalso; first | omega | contradiction)
              exact again (m + 1) [] ⟨hlm, succ_all hm.2 he⟩ (by omega) (by (refine qis ?_ ?_ <;> (repeat' first | exact rfl | (refine qS ?_; constructor))))
          · have hin : (s.tk.getD i tk0).a.getD j 0 ∉ depL s k0 i := fun hin => by
              obtain ⟨m', hm', e⟩ := List.getElem_of_mem hin
              refine hm.2 m' (by omega) ?_
              rw [List.getD_eq_getElem?_getD, List.getElem?_eq_getElem hm']; exact e
            rw [decide_eq_false hin] at hFj
            rw [hFj] at hFs
            (repeat' first | (refine Owe.same ?_; first | refine Owe.o ?_ | refine Owe.mk ?_ ?_) | (refine Fork.same ?_; (first | refine fkD ?_ ?_ | refine fkN ?_ ?_ | refine fkM ?_ ?_) <;> intro h) | refine MvQ.stay ?_)
            all_goals try (exfalso; first | omega | contradiction)
            refine again (j + 1) [0] hlj (by omega) ?_
            rw [hFs]
            (refine qis ?_ ?_ <;> (repeat' first | exact rfl | (refine qS ?_; constructor)))
      · rw [hb, Bool.true_or] at hFs
        (repeat' first | (refine Owe.same ?_; first | refine Owe.o ?_ | refine Owe.mk ?_ ?_) | (refine Fork.same ?_; (first | refine fkD ?_ ?_ | refine fkN ?_ ?_ | refine fkM ?_ ?_) <;> intro h) | refine MvQ.stay ?_)
        all_goals try (exfalso; first | omega | contradiction)
        refine again (j + 1) [0] hlj (by omega) ?_
        rw [hFs]
        (refine qis ?_ ?_ <;> (repeat' first | exact rfl | (refine qS ?_; constructor)))
    · have hlj' : ¬ (j : Int) < (s.tk.getD (i : Int).toNat tk0).a.length := by rw [Int.toNat_natCast]; omega
      have hje : j = (s.tk.getD i tk0).a.length := by omega
      have hFa : anyN F j = dpB s k0 i := by rw [hje]; exact hFa
      rw [hFa]
      rcases hd : dpB s k0 i with _ | _
      · rw [hd, if_neg (by decide)] at hfs
        (repeat' first | (refine Owe.same ?_; first | refine Owe.o ?_ | refine Owe.mk ?_ ?_) | (refine Fork.same ?_; (first | refine fkD ?_ ?_ | refine fkN ?_ ?_ | refine fkM ?_ ?_) <;> intro h) | refine MvQ.stay ?_)
        all_goals try (exfalso; first | omega | contradiction)
        refine again (i + 1) [0] ⟨by omega, hlt⟩ (by omega) ?_
        rw [hfs]
        (refine qis ?_ ?_ <;> (repeat' first | exact rfl | (refine qS ?_; constructor)))
      · rw [hd, if_pos rfl] at hfs
        (repeat' first | (refine Owe.same ?_; first | refine Owe.o ?_ | refine Owe.mk ?_ ?_) | (refine Fork.same ?_; (first | refine fkD ?_ ?_ | refine fkN ?_ ?_ | refine fkM ?_ ?_) <;> intro h) | refine MvQ.stay ?_)
        all_goals try (exfalso; first | omega | contradiction)
        refine again (i + 1) [1] ⟨by omega, hlt⟩ (by omega) ?_
        rw [hfs]
        (refine qis ?_ ?_ <;> (repeat' first | exact rfl | (refine qS ?_; constructor)))
        simp
  · have : i = s.tk.length := by omega
    subst this
    (repeat' first | (refine Owe.same ?_; first | refine Owe.o ?_ | refine Owe.mk ?_ ?_) | (refine Fork.same ?_; (first | refine fkD ?_ ?_ | refine fkN ?_ ?_ | refine fkM ?_ ?_) <;> intro h) | refine MvQ.stay ?_)
    refine rqF 0 _ rfl rfl rfl ?_; (repeat' first | exact rfl | (refine qS ?_; constructor))
end Go.Pw

set_option linter.unusedSimpArgs false
set_option linter.unusedVariables false
set_option maxHeartbeats 8000000
namespace Go.Pw
set_option maxRecDepth 2000
open Go Go.Proofs A1 A2 A3 A4
abbrev rb (b : Bool) : List D := [.v (.bool b)]
abbrev boos (l : List Bool) : C := slv 1 rb false l
abbrev dpA (s : Si) (n : Int) (k : Nat) : List Bool := dpL s n k ++ List.replicate (s.tk.length - k) false
theorem dpA_len {s : Si} {n : Int} {k : Nat} (h : k ≤ s.tk.length) : (dpA s n k).length = s.tk.length := by
  rw [List.length_append, dpL_len, List.length_replicate]; omega
section
variable {P : Program} {N base : Nat}
/-- A call that leaves what it takes as it was. -/
theorem OpsDL.cmr [m : Mix P] {M : List Nat} {acc : List (Bool × List Nat)} {dst : Option Nat} {fop : Operand} {xs : List Operand} {g : Option (Nat × Bool)} {rest : List LIns} {env : List (Nat × V)} {σ : Store} (σ0 : Store) {nx hi : Nat} {K : St → Prop} {f : FuncId} {ids : List Nat} {args : List V} {v : V}
    (hc : CallD P f args σ0 nx v σ0 hi) (hs : Sub σ0 σ) (hf : evo env fop = .c (.fn f ids)) (hg : guardOf env g = .run) (ha : RIs (xs.map (evo env) ++ ids.map fun k => .c (.bp k 0)) args)
    (h : putK dst v env fun env' => frS (app σ0 σ0 σ) fun σ' => frNat hi fun hi' => wpD P N base M rest env' σ' hi' none ((true, dom σ0 ++ dom σ0) :: acc) K) : OpsDL P N base M (⟨dst, .call fop xs, g⟩ :: rest) ⟨env, σ, nx⟩ acc K := by
  rw [putK_eq, frS_eq, frNat_eq] at h
  exact ⟨OpsD.step (k := 0) (ks := []) (i := ⟨dst, .call fop xs, g⟩) (st := ⟨env, σ, nx⟩) (VStep.call hg rfl hf ha hc) hs (Nat.le_refl _) hc.2.1 true (fun _ => rfl) (OpsD.wp h)⟩
end
theorem RetQ.wk {nx nx1 nx' : Nat} {rl : List RL} {vs vs0 : List V} {σ' : Store} {e : Exit} {env : List (Nat × V)} {σ : Store} (hres : resAll env σ rl = some vs0) (hl : Nat.beq vs0.length vs.length = true) (h : Is nx ⟨argEnv 0 vs0, σ, nx1⟩ ⟨argEnv 0 vs, σ', nx'⟩ []) (he : e = .normal ∨ e = .ret := by first | exact .inr rfl | exact .inl rfl) : RetQ nx rl vs σ' nx' e ⟨env, σ, nx1⟩ := by
  have := h.wk
  rw [nmAt_nil] at this
  exact RetQ.of he hres hl (Mv.weaken this)
abbrev dsto (n : Int) (L : List Bool) : Store := [(2, .box [.ms 1 L.length]), (1, rowv 4 1 rb false L), (0, .box [int n])]
theorem A56 {n : Int} {a : List Int} {L : List Bool} (ha : a.length ≤ 1000000) (hL : L.length ≤ 1000000) (hb : ∀ j, j < a.length → 0 ≤ a.getD j 0 ∧ a.getD j 0 < L.length) :
    CallD Tryz.prog 56 [.c (ints a), .c (.fn 105 [0, 2])] (dsto n L) 3 (vbl (a.any fun x => decide (x = n) || L.getD x.toNat false)) (dsto n L) 3 := by
  obtain ⟨q, hq⟩ : ∃ q, q = (a.any fun x => decide (x = n) || L.getD x.toNat false) := ⟨_, rfl⟩
  rw [← hq]
  rw [← anyN_mem] at hq
  obtain ⟨F, hF⟩ : ∃ F : Nat → Bool, F = fun j => (decide (a.getD j 0 = n) || L.getD (a.getD j 0).toNat false) := ⟨_, rfl⟩
  rw [← hF] at hq
  have hFj : ∀ j, F j = (decide (a.getD j 0 = n) || L.getD (a.getD j 0).toNat false) := fun j => by rw [hF]
  refine CallD.of (vs := [vbl q]) fn56 rfl rfl (by (refine qis ?_ ?_ <;> (repeat' first | exact rfl | (refine qS ?_; constructor)))) ?_
  (repeat' first | (refine Owe.same ?_; first | refine Owe.o ?_ | refine Owe.mk ?_ ?_) | (refine Fork.same ?_; (first | refine fkD ?_ ?_ | refine fkN ?_ ?_ | refine fkM ?_ ?_) <;> intro h) | refine MvQ.stay ?_)
  refine Ops.cs rfl rfl (CallS.of fn97 rfl ?_)
  (repeat' first | (refine Owe.same ?_; first | refine Owe.o ?_ | refine Owe.mk ?_ ?_) | (refine Fork.same ?_; (first | refine fkD ?_ ?_ | refine fkN ?_ ?_ | refine fkM ?_ ?_) <;> intro h) | refine MvQ.stay ?_)
  refine Sat.lp (fun j : Nat => ⟨[(8, vi .i64 j), (7, vi .i64 a.length), (6, .c (ints a)), (0, .c (ints a)), (1, .c (.fn 105 [0, 2]))], dsto n L, 3⟩) (fun j => j ≤ a.length ∧ ∀ i, i < j → F i = false) (fun j => a.length - j) 0 [] ⟨Nat.zero_le _, fun i hi => by omega⟩ ?_ ?_
  · (refine qis ?_ ?_ <;> (repeat' first | exact rfl | (refine qS ?_; constructor)))
  intro j hj
  refine Fork.dec (fun hlj => ?_) (fun hlj => ?_)
  · have hlj : j < a.length := by omega
    have hbj := hb j hlj
    have hbj' : 0 ≤ a.getD (j : Int).toNat 0 ∧ a.getD (j : Int).toNat 0 < L.length := by rw [Int.toNat_natCast]; exact hbj
    (repeat' first | (refine Owe.same ?_; first | refine Owe.o ?_ | refine Owe.mk ?_ ?_) | (refine Fork.same ?_; (first | refine fkD ?_ ?_ | refine fkN ?_ ?_ | refine fkM ?_ ?_) <;> intro h) | refine MvQ.stay ?_)
    refine Ops.cs rfl rfl (CallS.of fn105 rfl ?_)
    (repeat' first | (refine Owe.same ?_; first | refine Owe.o ?_ | refine Owe.mk ?_ ?_) | (refine Fork.same ?_; (first | refine fkD ?_ ?_ | refine fkN ?_ ?_ | refine fkM ?_ ?_) <;> intro h) | refine MvQ.stay ?_)
    · have h : a.getD j 0 = n := h
      have hFt : F j = true := by rw [hFj, decide_eq_true h]; rfl
      rw [anyN_t hlj hFt] at hq
      subst hq
      (repeat' first | (refine Owe.same ?_; first | refine Owe.o ?_ | refine Owe.mk ?_ ?_) | (refine Fork.same ?_; (first | refine fkD ?_ ?_ | refine fkN ?_ ?_ | refine fkM ?_ ?_) <;> intro h) | refine MvQ.stay ?_)
      refine RetQ.wk rfl rfl ?_
      (refine qis ?_ ?_ <;> (repeat' first | exact rfl | (refine qS ?_; constructor)))
    · have h : L.getD (a.getD j 0).toNat false = true := h
      have hFt : F j = true := by rw [hFj, h, Bool.or_true]
      rw [anyN_t hlj hFt] at hq
      subst hq
      (repeat' first | (refine Owe.same ?_; first | refine Owe.o ?_ | refine Owe.mk ?_ ?_) | (refine Fork.same ?_; (first | refine fkD ?_ ?_ | refine fkN ?_ ?_ | refine fkM ?_ ?_) <;> intro h) | refine MvQ.stay ?_)
      refine RetQ.wk rfl rfl ?_
      (refine qis ?_ ?_ <;> (repeat' first | exact rfl | (refine qS ?_; constructor)))
    · rename_i h1
      have h : L.getD (a.getD j 0).toNat false = false := h
      have h1 : ¬ a.getD j 0 = n := h1
      have hFt : F j = false := by rw [hFj, h, decide_eq_false h1]; rfl
      exact again (j + 1) [] ⟨hlj, succ_all hj.2 hFt⟩ (by omega) (by (refine qis ?_ ?_ <;> (repeat' first | exact rfl | (refine qS ?_; constructor))))
  · have : j = a.length := by omega
    subst this
    rw [anyN_f.2 hj.2] at hq
    subst hq
    (repeat' first | (refine Owe.same ?_; first | refine Owe.o ?_ | refine Owe.mk ?_ ?_) | (refine Fork.same ?_; (first | refine fkD ?_ ?_ | refine fkN ?_ ?_ | refine fkM ?_ ?_) <;> intro h) | refine MvQ.stay ?_)
    refine RetQ.wk rfl rfl ?_
    (refine qis ?_ ?_ <;> (repeat' first | exact rfl | (refine qS ?_; constructor)))
theorem dpA_succ {s : Si} {n : Int} {k : Nat} (hO : SiOk s) (hk : k < s.tk.length) : dpA s n (k + 1) = (dpA s n k).set k ((s.tk.getD k tk0).a.any fun x => decide (x = n) || (dpA s n k).getD x.toNat false) := by
  have hl := dpL_len (s := s) (n := n) k
  obtain ⟨s1, s2⟩ := Srt.of (hO.t k hk).a
  have e : ((s.tk.getD k tk0).a.any fun x => decide (x = n) || (dpA s n k).getD x.toNat false) = (s.tk.getD k tk0).a.any fun x => decide (x = n) || (dpL s n k).getD x.toNat false := by
    rw [← anyN_mem, ← anyN_mem]
    refine anyN_ext fun j hj => ?_
    have h2 := s2 j hj
    congr 1
    simp only [dpA, List.getD_eq_getElem?_getD]
    rw [List.getElem?_append_left (by rw [hl]; have := h2; simp only [List.getD_eq_getElem?_getD] at this; omega)]
  rw [e, dpA, dpA, dpL, List.set_append_right _ _ (by omega), hl, Nat.sub_self, show s.tk.length - k = (s.tk.length - (k + 1)) + 1 by omega, List.replicate_succ, List.set_cons_zero, List.append_assoc]
  rfl
theorem C71 {s : Si} {n : Int} : (SiOk s ∧ TkSm s.tk) → PFD Tryz.prog 71 [siv s, vi .i64 n] (.c (boos (dpL s n s.tk.length))) := fun ⟨hO, hs⟩ => by
  have n6 := hO.n
  have hA := fun k h => dpA_len (s := s) (n := n) (k := k) h
  refine pi1 fn71 ?_
  (repeat' first | (refine Owe.same ?_; first | refine Owe.o ?_ | refine Owe.mk ?_ ?_) | (refine Fork.same ?_; (first | refine fkD ?_ ?_ | refine fkN ?_ ?_ | refine fkM ?_ ?_) <;> intro h) | refine MvQ.stay ?_)
  refine Sat.lp (fun k : Nat => ⟨[(15, vi .i64 k), (14, vi .i64 s.tk.length), (13, .c (tks s.tk)), (5, .c (.bp 2 0)), (3, .c (.bp 0 0))], [(2, .box [.ms 1 (dpA s n k).length]), (1, rowv 4 1 rb false (dpA s n k)), (0, .box [int n])], 3⟩) (fun k => k ≤ s.tk.length) (fun k => s.tk.length - k) 0 [0, 1, 2] (Nat.zero_le _) ?_ ?_
  · (refine qis ?_ ?_ <;> (repeat' first | exact rfl | (refine qS ?_; constructor)))
    · rw [hA 0 (Nat.zero_le _), Int.toNat_natCast]
    · exact ⟨false, rfl, by rw [Int.toNat_natCast]; rfl⟩
  intro k hk
  refine Fork.dec (fun hlt => ?_) (fun hlt => ?_)
  · have hlt : k < s.tk.length := by omega
    have hal := (hs k hlt).2
    obtain ⟨s1, s2⟩ := Srt.of (hO.t k hlt).a
    (repeat' first | (refine Owe.same ?_; first | refine Owe.o ?_ | refine Owe.mk ?_ ?_) | (refine Fork.same ?_; (first | refine fkD ?_ ?_ | refine fkN ?_ ?_ | refine fkM ?_ ?_) <;> intro h) | refine MvQ.stay ?_)
    have hlA := hA k hk
    refine OpsDL.cmr (dsto n (dpA s n k)) ((A56 (n := n) (a := (s.tk.getD k tk0).a) (L := dpA s n k) hal (by omega) (fun j hj => by have := s2 j hj; rw [hlA]; omega)).at _) (sub_cons rfl (sub_cons rfl (sub_cons rfl sub_nil))) rfl rfl ?_ ?_
    · refine VEqs.ris (qvs ?_)
      (repeat' first | exact rfl | (refine qS ?_; constructor))
    (repeat' first | (refine Owe.same ?_; first | refine Owe.o ?_ | refine Owe.mk ?_ ?_) | (refine Fork.same ?_; (first | refine fkD ?_ ?_ | refine fkN ?_ ?_ | refine fkM ?_ ?_) <;> intro h) | refine MvQ.stay ?_)
    have hd := dpA_succ (n := n) hO hlt
    have hlA2 := hA (k + 1) hlt
    refine again (k + 1) [0, 1, 2] hlt (by omega) ?_
    (refine qis ?_ ?_ <;> (repeat' first | exact rfl | (refine qS ?_; constructor)))
    · rw [hlA, hlA2]
    · exact ⟨_, rfl, by rw [Int.toNat_natCast]; exact hd⟩
  · have : k = s.tk.length := by omega
    subst this
    have e : dpL s n s.tk.length = dpA s n s.tk.length := by rw [dpA, Nat.sub_self]; simp
    rw [e]
    (repeat' first | (refine Owe.same ?_; first | refine Owe.o ?_ | refine Owe.mk ?_ ?_) | (refine Fork.same ?_; (first | refine fkD ?_ ?_ | refine fkN ?_ ?_ | refine fkM ?_ ?_) <;> intro h) | refine MvQ.stay ?_)
    refine rqF 0 _ rfl rfl rfl ?_; (repeat' first | exact rfl | (refine qS ?_; constructor))
end Go.Pw

set_option linter.unusedVariables false
set_option maxHeartbeats 2000000
set_option maxRecDepth 100000
namespace Go.Pw
open Go Go.Proofs
/-- moonpool/dive.Replanned -/
def lc23u : LCode :=
  (.seq (.region [⟨some 3, .boxS (.tmp 0), none⟩, ⟨some 4, .boxS (.tmp 1), none⟩, ⟨some 5, .box (.tmp 2), none⟩, ⟨some 6, .mv (.const (.slice none 0 0)), none⟩, ⟨some 7, .mv (.const
    (.int .i64 0)), none⟩, ⟨some 8, .mv (.const (.int .i64 0)), none⟩]) (.seq (.region [⟨some 16, .load true 8 (.tmp 3), none⟩, ⟨some 17, .load true 5 (.tmp 4), none⟩, ⟨some 18,
    .call (.func 52) [(.tmp 16), (.tmp 17)], none⟩, ⟨some 15, .mv (.tmp 18), none⟩, ⟨some 19, .ext (.tmp 15) 0, none⟩, ⟨some 20, .ext (.tmp 15) 1, none⟩, ⟨some 9, .alloc [(.slice
    none 0 0), (.slice none 0 0), (.slice none 0 0), (.slice none 0 0), (.int .i64 0), (.int .i64 0), (.int .i64 0), (.int .i64 0), (.int .i64 0), (.int .i64 0), (.int .i64 0),
    (.int .i64 0), (.slice none 0 0)], none⟩, ⟨none, .store 13 (.tmp 9) (.tmp 19), none⟩, ⟨some 10, .mv (.tmp 20), none⟩]) (.seq (.seq (.region [⟨some 21, .mv (.tmp 10), none⟩,
    ⟨some 22, .load false 1 (.tmp 5), none⟩, ⟨some 23, .fld 0 (.tmp 3), none⟩, ⟨some 24, .load false 1 (.tmp 23), none⟩, ⟨some 25, .len (.tmp 24), none⟩, ⟨some 26, .bin .sub (.tmp
    25) (.const (.int .i64 1)), none⟩, ⟨some 27, .call (.func 69) [(.tmp 22), (.const (.int .i64 0)), (.tmp 26)], none⟩, ⟨some 28, .call (.func 55) [(.tmp 27), (.const (.int .i64
    6))], none⟩, ⟨some 29, .lit false 33 1 [(.tmp 21), (.tmp 28)], none⟩, ⟨some 30, .call (.func 54) [(.tmp 29)], none⟩, ⟨some 10, .mv (.tmp 30), none⟩]) (.seq (.region [⟨some 31,
    .mv (.tmp 10), none⟩, ⟨some 32, .bin .neq (.tmp 31) (.const (.int .i64 0)), none⟩]) (.cond (.tmp 32) (.seq (.region [⟨some 33, .mv (.tmp 10), none⟩, ⟨some 6, .mv (.const (.slice
    none 0 0)), none⟩, ⟨some 7, .mv (.const (.int .i64 0)), none⟩, ⟨some 8, .mv (.tmp 33), none⟩]) .ret) .skip))) (.seq (.seq (.regionD [⟨some 34, .load true 13 (.tmp 9), none⟩,
    ⟨some 35, .load false 1 (.tmp 5), none⟩, ⟨some 36, .call (.func 57) [(.tmp 34), (.tmp 35)], none⟩, ⟨some 37, .un .not (.tmp 36), none⟩, ⟨some 38, .call (.func 55) [(.tmp 37),
    (.const (.int .i64 23))], none⟩, ⟨some 39, .load true 13 (.tmp 9), none⟩, ⟨some 40, .call (.func 70) [(.tmp 39)], none⟩, ⟨some 41, .call (.func 55) [(.tmp 40), (.const (.int
    .i64 24))], none⟩, ⟨some 42, .lit false 33 1 [(.tmp 38), (.tmp 41)], none⟩, ⟨some 43, .call (.func 54) [(.tmp 42)], none⟩, ⟨some 11, .mv (.tmp 43), none⟩] [0, 0, 3, 7, 15, 0,
    63, 127, 255, 511, 1023] [0, 1, 2, 3, 4, 5, 6, 7, 8, 9, 10]) (.seq (.region [⟨some 44, .mv (.tmp 11), none⟩, ⟨some 45, .bin .neq (.tmp 44) (.const (.int .i64 0)), none⟩]) (.cond
    (.tmp 45) (.seq (.region [⟨some 46, .mv (.tmp 11), none⟩, ⟨some 6, .mv (.const (.slice none 0 0)), none⟩, ⟨some 7, .mv (.const (.int .i64 0)), none⟩, ⟨some 8, .mv (.tmp 46),
    none⟩]) .ret) .skip))) (.seq (.region [⟨some 47, .load true 8 (.tmp 3), none⟩, ⟨some 48, .load false 1 (.tmp 5), none⟩, ⟨some 49, .call (.func 71) [(.tmp 47), (.tmp 48)], none⟩,
    ⟨some 12, .alloc [(.slice none 0 0)], none⟩, ⟨none, .store 1 (.tmp 12) (.tmp 49), none⟩]) (.seq (.stop (.region [⟨some 51, .load true 13 (.tmp 9), none⟩, ⟨some 52, .mkfn 72
    [(.tmp 5), (.tmp 12)], none⟩, ⟨some 53, .call (.func 67) [(.tmp 51), (.tmp 52)], none⟩, ⟨some 50, .mv (.tmp 53), none⟩, ⟨some 54, .ext (.tmp 50) 0, none⟩, ⟨some 55, .ext (.tmp
    50) 1, none⟩, ⟨some 13, .mv (.tmp 54), none⟩, ⟨some 14, .mv (.tmp 55), none⟩])) (.seq (.region [⟨some 56, .mv (.tmp 13), none⟩, ⟨some 57, .mv (.tmp 14), none⟩, ⟨some 6, .mv
    (.tmp 56), none⟩, ⟨some 7, .mv (.tmp 57), none⟩, ⟨some 8, .mv (.const (.int .i64 0)), none⟩]) .ret)))))))
theorem low23u : lowF Tryz.prog [3, 4] Tryz.f23 = some (58, lc23u.strip, [.tmp 6, .tmp 7, .tmp 8]) := by kernel_rfl
theorem fn23u : FnOk Tryz.prog 23 58 lc23u [.tmp 6, .tmp 7, .tmp 8] := ⟨Tryz.call23, [3, 4], _, Tryz.func23, low23u⟩
end Go.Pw

set_option linter.unusedSimpArgs false
set_option linter.unusedVariables false
set_option maxHeartbeats 8000000
namespace Go.Pw
set_option maxRecDepth 2000
open Go Go.Proofs A1 A2 A3 A4
abbrev isTk (s : Si) (n : Int) : Bool := wi n 0 ((s.tk.length : Int) - 1)
def deE (s : Si) (n : Int) : Int := fstE [(siE s).2, unb (isTk s n) 6]
theorem deE.ok {s : Si} {n : Int} (h : deE s n = 0) : SiOk s ∧ 0 ≤ n ∧ n < s.tk.length := by
  rw [deE, fst2, unb_ok (by decide)] at h
  have := of_decide_eq_true h.2
  exact ⟨SiOk.of h.1, by omega, by omega⟩
theorem C24 {s : Si} {n : Int} : SiSm s → PFD Tryz.prog 24 [siv s, vi .i64 n] (.tup [.c (ints (if deE s n = 0 then depL s n s.tk.length else [])), vi .i64 (deE s n)]) := fun hs => by
  have htk := hs.tk
  have c1 := C73 hs
  have hE : fstE [(siE s).2, unb (wi n 0 ((s.tk.length : Int) - 1)) 6] = deE s n := rfl
  by_cases h0 : deE s n = 0
  rotate_left
  · rw [if_neg h0]
    generalize deE s n = E at *
    refine pi2 fn24 ?_
    (repeat' first | (refine Owe.same ?_; first | refine Owe.o ?_ | refine Owe.mk ?_ ?_) | (refine Fork.same ?_; (first | refine fkD ?_ ?_ | refine fkN ?_ ?_ | refine fkM ?_ ?_) <;> intro h) | ((first | refine OpsL.same ?_ | refine OpsDL.same ?_); first | refine pK c1 rfl rfl ?_ | refine pK C69 rfl rfl ?_ | refine pK C55 rfl rfl ?_ | refine pK C54 rfl rfl ?_) | refine MvQ.stay ?_)
    · (repeat' first | (refine Owe.same ?_; first | refine Owe.o ?_ | refine Owe.mk ?_ ?_) | (refine Fork.same ?_; (first | refine fkD ?_ ?_ | refine fkN ?_ ?_ | refine fkM ?_ ?_) <;> intro h) | refine MvQ.stay ?_)
      (refine rqK rfl ?_; (repeat' first | exact rfl | (refine qS ?_; constructor)))
      exact hE
    · exact absurd (hE.symm.trans h) h0
  · rw [if_pos h0, h0]
    obtain ⟨hO, hn⟩ := deE.ok h0
    have n6 := hO.n
    have c2 := C71 (n := n) ⟨hO, hs.t⟩
    have hdl := dpL_len (s := s) (n := n) s.tk.length
    rw [h0] at hE
    refine pi2 fn24 ?_
    (repeat' first | (refine Owe.same ?_; first | refine Owe.o ?_ | refine Owe.mk ?_ ?_) | (refine Fork.same ?_; (first | refine fkD ?_ ?_ | refine fkN ?_ ?_ | refine fkM ?_ ?_) <;> intro h) | ((first | refine OpsL.same ?_ | refine OpsDL.same ?_); first | refine pK c1 rfl rfl ?_ | refine pK C69 rfl rfl ?_ | refine pK C55 rfl rfl ?_ | refine pK C54 rfl rfl ?_) | refine MvQ.stay ?_)
    · exact absurd hE h
    (repeat' first | (refine Owe.same ?_; first | refine Owe.o ?_ | refine Owe.mk ?_ ?_) | (refine Fork.same ?_; (first | refine fkY ?_ | refine fkF ?_ | ((first | refine fkD ?_ ?_ | refine fkN ?_ ?_ | refine fkM ?_ ?_) <;> intro h))) | ((first | refine OpsL.same ?_ | refine OpsDL.same ?_); first | refine oK c2 rfl rfl rfl ?_) | refine MvQ.stay ?_)
    refine Sat.nilS 8 3 1 (fun i => r1 (([] : List Int).getD i 0)) rfl ?_
    refine Sat.lp (fun k : Nat => ⟨[(33, vi .i64 k), (32, vi .i64 (dpL s n s.tk.length).length), (31, .c (boos (dpL s n s.tk.length))), (8, .c (.ms 0 (depL s n k).length))], [(0, rowv 3 1 r1 0 (depL s n k))], 1⟩) (fun k => k ≤ s.tk.length) (fun k => s.tk.length - k) 0 [0] (Nat.zero_le _) ?_ ?_
    · (refine qis ?_ ?_ <;> (repeat' first | exact rfl | (refine qS ?_; constructor)))
    intro k hk
    have hfl : (depL s n k).length ≤ k := fltL_len (dpB s n) k
    have hfs : depL s n (k + 1) = if dpB s n k = true then depL s n k ++ [(k : Int)] else depL s n k := fltL_succ (dpB s n) k
    refine Fork.dec (fun hlt => ?_) (fun hlt => ?_)
    · have hlt : k < s.tk.length := by omega
      (repeat' first | (refine Owe.same ?_; first | refine Owe.o ?_ | refine Owe.mk ?_ ?_) | (refine Fork.same ?_; (first | refine fkD ?_ ?_ | refine fkN ?_ ?_ | refine fkM ?_ ?_) <;> intro h) | refine MvQ.stay ?_)
      · have h : dpB s n k = true := h
        rw [if_pos h] at hfs
        refine again (k + 1) [1] hlt (by omega) ?_
        rw [hfs]
        (refine qis ?_ ?_ <;> (repeat' first | exact rfl | (refine qS ?_; constructor)))
        simp
      · have h : dpB s n k = false := h
        rw [if_neg (by rw [h]; decide)] at hfs
        refine again (k + 1) [0] hlt (by omega) ?_
        rw [hfs]
        (refine qis ?_ ?_ <;> (repeat' first | exact rfl | (refine qS ?_; constructor)))
    · have : k = s.tk.length := by omega
      subst this
      (repeat' first | (refine Owe.same ?_; first | refine Owe.o ?_ | refine Owe.mk ?_ ?_) | (refine Fork.same ?_; (first | refine fkD ?_ ?_ | refine fkN ?_ ?_ | refine fkM ?_ ?_) <;> intro h) | refine MvQ.stay ?_)
      refine rqF 0 _ rfl rfl rfl ?_; (repeat' first | exact rfl | (refine qS ?_; constructor))
abbrev boosD (L : List Bool) : D := .sl 1 L.length fun i => rb (L.getD i false)
theorem C72 {n : Int} {L : List Bool} {k : Nat} : k < L.length → PFD Tryz.prog 72 [vi .i64 k, .c (.rp [dI n]), .c (.rp [boosD L])] (vbl (!decide ((k : Int) = n) && !(L.getD k false))) := fun hk => by
  obtain ⟨q, hq⟩ : ∃ q, q = (!decide ((k : Int) = n) && !(L.getD k false)) := ⟨_, rfl⟩
  rw [← hq]
  refine pi1 fn72 ?_
  (repeat' first | (refine Owe.same ?_; first | refine Owe.o ?_ | refine Owe.mk ?_ ?_) | (refine Fork.same ?_; (first | refine fkD ?_ ?_ | refine fkN ?_ ?_ | refine fkM ?_ ?_) <;> intro h) | refine MvQ.stay ?_)
  · (refine rqK rfl ?_; (repeat' first | exact rfl | (refine qS ?_; constructor)))
    rw [hq, decide_eq_false h]; rfl
  · (refine rqK rfl ?_; (repeat' first | exact rfl | (refine qS ?_; constructor)))
    rw [hq, decide_eq_true h]; rfl
/-- The error of a plan without a task. -/
def reE (s : Si) (t : St8) (n : Int) : Int := fstE [onE s t, unb (isTk s n) 6]
def rpX (s : Si) (t : St8) (n : Int) : Int := fstE [unb (!decide (n ∈ t.d)) 23, unb (reB s t) 24]
abbrev pmD (s : Si) (n : Int) (k : Nat) : Bool := !decide ((k : Int) = n) && !(dpB s n k)
def raE (s : Si) (t : St8) (n : Int) : Int := if reE s t n = 0 then rpX s t n else reE s t n
theorem C23 {s : Si} {t : St8} {n : Int} : (SiSm s ∧ t.d.length ≤ 1000000) → PFD Tryz.prog 23 [siv s, stv t, vi .i64 n] (.tup [.c (ints (if raE s t n = 0 then (bestPp (pmD s n) s t).1 else [])), vi .i64 (if raE s t n = 0 then (bestPp (pmD s n) s t).2 else 0), vi .i64 (raE s t n)]) := fun ⟨hs, hd⟩ => by
  have htk := hs.tk
  have c1 := C52 (s := s) (t := t) ⟨hs, hd⟩
  have hE : fstE [onE s t, unb (wi n 0 ((s.tk.length : Int) - 1)) 6] = reE s t n := rfl
  by_cases h0 : reE s t n = 0
  rotate_left
  · have e : raE s t n = reE s t n := if_neg h0
    rw [e, if_neg h0, if_neg h0]
    generalize reE s t n = E at *
    refine pi3 fn23u ?_
    (repeat' first | (refine Owe.same ?_; first | refine Owe.o ?_ | refine Owe.mk ?_ ?_) | (refine Fork.same ?_; (first | refine fkD ?_ ?_ | refine fkN ?_ ?_ | refine fkM ?_ ?_) <;> intro h) | ((first | refine OpsL.same ?_ | refine OpsDL.same ?_); first | refine pK c1 rfl rfl ?_ | refine pK C69 rfl rfl ?_ | refine pK C55 rfl rfl ?_ | refine pK C54 rfl rfl ?_) | refine MvQ.stay ?_)
    · (repeat' first | (refine Owe.same ?_; first | refine Owe.o ?_ | refine Owe.mk ?_ ?_) | (refine Fork.same ?_; (first | refine fkD ?_ ?_ | refine fkN ?_ ?_ | refine fkM ?_ ?_) <;> intro h) | refine MvQ.stay ?_)
      (refine rqK rfl ?_; (repeat' first | exact rfl | (refine qS ?_; constructor)))
      exact hE
    · exact absurd (hE.symm.trans h) h0
  have e : raE s t n = rpX s t n := if_pos h0
  have h0' := h0
  rw [reE, fst2, unb_ok (by decide)] at h0'
  obtain ⟨ho, hn⟩ := h0'
  have hn := of_decide_eq_true hn
  have hO := OnOk.of ho
  have c2 := C70 hO.b
  have c3 := C57 (s := s) (t := t) (n := n) hd
  rw [h0] at hE
  rw [e]
  have hX : fstE [unb (!decide (n ∈ t.d)) 23, unb (reB s t) 24] = rpX s t n := rfl
  by_cases hx : rpX s t n = 0
  rotate_left
  · rw [if_neg hx, if_neg hx]
    generalize rpX s t n = X at *
    refine pi3 fn23u ?_
    (repeat' first | (refine Owe.same ?_; first | refine Owe.o ?_ | refine Owe.mk ?_ ?_) | (refine Fork.same ?_; (first | refine fkD ?_ ?_ | refine fkN ?_ ?_ | refine fkM ?_ ?_) <;> intro h) | ((first | refine OpsL.same ?_ | refine OpsDL.same ?_); first | refine pK c1 rfl rfl ?_ | refine pK C69 rfl rfl ?_ | refine pK C55 rfl rfl ?_ | refine pK C54 rfl rfl ?_) | refine MvQ.stay ?_)
    · exact absurd hE h
    (repeat' first | (refine Owe.same ?_; first | refine Owe.o ?_ | refine Owe.mk ?_ ?_) | (refine Fork.same ?_; (first | refine fkD ?_ ?_ | refine fkN ?_ ?_ | refine fkM ?_ ?_) <;> intro h) | ((first | refine OpsL.same ?_ | refine OpsDL.same ?_); first | refine pK c2 rfl rfl ?_ | refine pK c3 rfl rfl ?_ | refine pK C55 rfl rfl ?_ | refine pK C54 rfl rfl ?_) | refine MvQ.stay ?_)
    · (repeat' first | (refine Owe.same ?_; first | refine Owe.o ?_ | refine Owe.mk ?_ ?_) | (refine Fork.same ?_; (first | refine fkD ?_ ?_ | refine fkN ?_ ?_ | refine fkM ?_ ?_) <;> intro h) | refine MvQ.stay ?_)
      (refine rqK rfl ?_; (repeat' first | exact rfl | (refine qS ?_; constructor)))
      exact hX
    · exact absurd (hX.symm.trans h) hx
  · rw [if_pos hx, if_pos hx, hx]
    have c4 := C71 (n := n) ⟨hO.ok, hs.t⟩
    have hdl := dpL_len (s := s) (n := n) s.tk.length
    have c5 := C67p (g := 72) (rows := [[dI n], [boosD (dpL s n s.tk.length)]]) (pm := pmD s n) (s := s) (t := t) (fun k hk => C72 (by omega)) ⟨hO, hs.t⟩
    generalize bestPp (pmD s n) s t = B at *
    refine pi3 fn23u ?_
    (repeat' first | (refine Owe.same ?_; first | refine Owe.o ?_ | refine Owe.mk ?_ ?_) | (refine Fork.same ?_; (first | refine fkD ?_ ?_ | refine fkN ?_ ?_ | refine fkM ?_ ?_) <;> intro h) | ((first | refine OpsL.same ?_ | refine OpsDL.same ?_); first | refine pK c1 rfl rfl ?_ | refine pK C69 rfl rfl ?_ | refine pK C55 rfl rfl ?_ | refine pK C54 rfl rfl ?_) | refine MvQ.stay ?_)
    · exact absurd hE h
    (repeat' first | (refine Owe.same ?_; first | refine Owe.o ?_ | refine Owe.mk ?_ ?_) | (refine Fork.same ?_; (first | refine fkD ?_ ?_ | refine fkN ?_ ?_ | refine fkM ?_ ?_) <;> intro h) | ((first | refine OpsL.same ?_ | refine OpsDL.same ?_); first | refine pK c2 rfl rfl ?_ | refine pK c3 rfl rfl ?_ | refine pK C55 rfl rfl ?_ | refine pK C54 rfl rfl ?_) | refine MvQ.stay ?_)
    · exact absurd (hX.trans hx) h
    (repeat' first | (refine Owe.same ?_; first | refine Owe.o ?_ | refine Owe.mk ?_ ?_) | (refine Fork.same ?_; (first | refine fkY ?_ | refine fkF ?_ | ((first | refine fkD ?_ ?_ | refine fkN ?_ ?_ | refine fkM ?_ ?_) <;> intro h))) | ((first | refine OpsL.same ?_ | refine OpsDL.same ?_); first | refine oK c4 rfl rfl rfl ?_) | refine MvQ.stay ?_)
    refine SatL.frB 8 [12] rfl rfl ?_
    refine SatL.frB 0 [5] rfl rfl ?_
    refine SatL.go ?_
    (repeat' first | (refine Owe.same ?_; first | refine Owe.o ?_ | refine Owe.mk ?_ ?_) | (refine Fork.same ?_; (first | refine fkY ?_ | refine fkF ?_ | ((first | refine fkD ?_ ?_ | refine fkN ?_ ?_ | refine fkM ?_ ?_) <;> intro h))) | ((first | refine OpsL.same ?_ | refine OpsDL.same ?_); first | refine oK c5 rfl rfl rfl ?_) | refine MvQ.stay ?_)
    (refine rqK rfl ?_; (repeat' first | exact rfl | (refine qS ?_; constructor)))
end Go.Pw

set_option linter.unusedSimpArgs false
set_option linter.unusedVariables false
set_option maxHeartbeats 8000000
namespace Go.Pw
set_option maxRecDepth 2000
open Go Go.Proofs A1 A2 A3 A4
theorem C27o {s : Si} {n : Int} : (SiOk s ∧ TkSm s.tk ∧ 0 ≤ n ∧ n < s.tk.length) → CallD Tryz.prog 27 [siv s, vi .i64 n] [] 23 (.c (.ms 23 (depL s n s.tk.length).length)) [(23, rowv 3 1 r1 0 (depL s n s.tk.length))] 24 := fun ⟨hO, hs, hn0, hn1⟩ => by
  have n6 := hO.n
  obtain ⟨k0, rfl⟩ := Int.eq_ofNat_of_zero_le hn0
  have e0 := dep_lo (n := (k0 : Int)) hO (k0 + 1) (by omega) (by omega)
  refine CallD.of (vs := [.c (.ms 23 (depL s k0 s.tk.length).length)]) fn27 rfl rfl (by (refine qis ?_ ?_ <;> (repeat' first | exact rfl | (refine qS ?_; constructor)))) ?_
  (repeat' first | (refine Owe.same ?_; first | refine Owe.o ?_ | refine Owe.mk ?_ ?_) | (refine Fork.same ?_; (first | refine fkD ?_ ?_ | refine fkN ?_ ?_ | refine fkM ?_ ?_) <;> intro h) | refine MvQ.stay ?_)
  refine Sat.nilS 5 3 1 (fun i => r1 (([] : List Int).getD i 0)) rfl ?_
  refine Sat.lp (fun i : Nat => ⟨[(6, vi .i64 i), (5, .c (.ms 23 (depL s k0 i).length)), (1, vi .i64 k0), (2, .c (.rp (siD s)))], [(23, rowv 3 1 r1 0 (depL s k0 i))], 24⟩) (fun i => k0 + 1 ≤ i ∧ i ≤ s.tk.length) (fun i => s.tk.length - i) (k0 + 1) [23] ⟨Nat.le_refl _, by omega⟩ ?_ ?_
  · rw [e0]
    (refine qis ?_ ?_ <;> (repeat' first | exact rfl | (refine qS ?_; constructor)))
  intro i hi
  have hfl : (depL s k0 i).length ≤ i := fltL_len (dpB s k0) i
  have hfs : depL s k0 (i + 1) = if dpB s k0 i = true then depL s k0 i ++ [(i : Int)] else depL s k0 i := fltL_succ (dpB s k0) i
  refine Fork.dec (fun hlt => ?_) (fun hlt => ?_)
  · have hlt : i < s.tk.length := by omega
    have hal := (hs i hlt).2
    obtain ⟨s1, s2⟩ := Srt.of (hO.t i hlt).a
    obtain ⟨F, hF⟩ : ∃ F : Nat → Bool, ∀ j, F j = (decide ((s.tk.getD i tk0).a.getD j 0 = (k0 : Int)) || decide ((s.tk.getD i tk0).a.getD j 0 ∈ depL s k0 i)) := ⟨_, fun _ => rfl⟩
    have hFa : anyN F (s.tk.getD i tk0).a.length = dpB s k0 i := by
      rw [dpB_eq hO hlt, ← anyN_mem]
      refine anyN_ext fun j hj => ?_
      have h2 := s2 j hj
      rw [hF, dep_mem h2.1 (by omega)]
    obtain ⟨a, ha⟩ : ∃ a, a = (s.tk.getD i tk0).a := ⟨_, rfl⟩
    (repeat' first | (refine Owe.same ?_; first | refine Owe.o ?_ | refine Owe.mk ?_ ?_) | (refine Fork.same ?_; (first | refine fkD ?_ ?_ | refine fkN ?_ ?_ | refine fkM ?_ ?_) <;> intro h) | refine MvQ.stay ?_)
    refine Sat.lp (fun j : Nat => ⟨[(8, vi .i64 j), (7, vbl (anyN F j)), (6, vi .i64 i), (5, .c (.ms 23 (depL s k0 i).length)), (1, vi .i64 k0), (2, .c (.rp (siD s)))], [(23, rowv 3 1 r1 0 (depL s k0 i))], 24⟩) (fun j => j ≤ (s.tk.getD i tk0).a.length) (fun j => (s.tk.getD i tk0).a.length - j) 0 [23] (Nat.zero_le _) ?_ ?_
    · (refine qis ?_ ?_ <;> (repeat' first | exact rfl | (refine qS ?_; constructor)))
    intro j hj
    by_cases hlj : j < (s.tk.getD i tk0).a.length
    · have hlj' : (j : Int) < (s.tk.getD (i : Int).toNat tk0).a.length := by rw [Int.toNat_natCast]; omega
      have hFs : anyN F (j + 1) = (anyN F j || F j) := rfl
      have hFj := hF j
      rcases hb : anyN F j with _ | _
      · rw [hb, Bool.false_or] at hFs
        have hxe : (s.tk.getD (i : Int).toNat tk0).a.getD (j : Int).toNat 0 = (s.tk.getD i tk0).a.getD j 0 := by rw [Int.toNat_natCast, Int.toNat_natCast]
        by_cases hx : (s.tk.getD i tk0).a.getD j 0 = (k0 : Int)
        · rw [decide_eq_true hx, Bool.true_or] at hFj
          rw [hFj] at hFs
          have hx' := hxe.trans hx
          (repeat' first | (refine Owe.same ?_; first | refine Owe.o ?_ | refine Owe.mk ?_ ?_) | (refine Fork.same ?_; (first | refine fkD ?_ ?_ | refine fkN ?_ ?_ | refine fkM ?_ ?_) <;> intro h) | refine MvQ.stay ?_)
          all_goals try (exfalso; first | omega | contradiction)
          refine again (j + 1) [23] hlj (by omega) ?_
          rw [hFs]
          (refine qis ?_ ?_ <;> (repeat' first | exact rfl | (refine qS ?_; constructor)))
        · rw [decide_eq_false hx, Bool.false_or] at hFj
          have hx' : ¬ (s.tk.getD (i : Int).toNat tk0).a.getD (j : Int).toNat 0 = (k0 : Int) := by rw [hxe]; exact hx
          (repeat' first | (refine Owe.same ?_; first | refine Owe.o ?_ | refine Owe.mk ?_ ?_) | (refine Fork.same ?_; (first | refine fkD ?_ ?_ | refine fkN ?_ ?_ | refine fkM ?_ ?_) <;> intro h) | refine MvQ.stay ?_)
          all_goals try (exfalso; first | omega | contradiction)
          refine Ops.cs rfl rfl (CallS.of fn20 rfl ?_)
          (repeat' first | (refine Owe.same ?_; first | refine Owe.o ?_ | refine Owe.mk ?_ ?_) | (refine Fork.same ?_; (first | refine fkD ?_ ?_ | refine fkN ?_ ?_ | refine fkM ?_ ?_) <;> intro h) | refine MvQ.stay ?_)
          refine Sat.lp (fun m : Nat => ⟨[(5, vi .i64 m), (0, .c (.ms 23 (depL s k0 i).length)), (1, vi .i64 ((s.tk.getD i tk0).a.getD j 0))], [(23, rowv 3 1 r1 0 (depL s k0 i))], 24⟩) (fun m => m ≤ (depL s k0 i).length ∧ ∀ m', m' < m → (depL s k0 i).getD m' 0 ≠ (s.tk.getD i tk0).a.getD j 0) (fun m => (depL s k0 i).length - m) 0 [] ⟨Nat.zero_le _, fun m' h => by omega⟩ ?_ ?_
          · (refine qis ?_ ?_ <;> (repeat' first | exact rfl | (refine qS ?_; constructor)))
          intro m hm
          by_cases hlm : m < (depL s k0 i).length
          · by_cases he : (depL s k0 i).getD m 0 = (s.tk.getD i tk0).a.getD j 0
            · have hin : (s.tk.getD i tk0).a.getD j 0 ∈ depL s k0 i := by rw [← he]; exact getD_mem 0 hlm
              rw [decide_eq_true hin] at hFj
              rw [hFj] at hFs
              (repeat' first | (refine Owe.same ?_; first | refine Owe.o ?_ | refine Owe.mk ?_ ?_) | (refine Fork.same ?_; (first | refine fkD ?_ ?_ | refine fkN ?_ ?_ | refine fkM ?_ ?_) <;> intro h) | refine MvQ.stay ?_)
              all_goals try (exfalso; first | omega | contradiction)
              refine again (j + 1) [23] hlj (by omega) ?_
              rw [hFs]
              (refine qis ?_ ?_ <;> (repeat' first | exact rfl | (refine qS ?_; constructor)))
            · (repeat' first | (refine Owe.same ?_; first | refine Owe.o ?_ | refine Owe.mk ?_ ?_) | (refine Fork.same ?_; (first | refine fkD ?_ ?_ | refine fkN ?_ ?_ | refine fkM ?_ ?_) <;> intro h) | refine MvQ.stay ?_)
              all_goals try (exfalso; first | omega | contradiction)
              exact again (m + 1) [] ⟨hlm, succ_all hm.2 he⟩ (by omega) (by (refine qis ?_ ?_ <;> (repeat' first | exact rfl | (refine qS ?_; constructor))))
          · have hin : (s.tk.getD i tk0).a.getD j 0 ∉ depL s k0 i := fun hin => by
              obtain ⟨m', hm', e⟩ := List.getElem_of_mem hin
              refine hm.2 m' (by omega) ?_
              rw [List.getD_eq_getElem?_getD, List.getElem?_eq_getElem hm']; exact e
            rw [decide_eq_false hin] at hFj
            rw [hFj] at hFs
            (repeat' first | (refine Owe.same ?_; first | refine Owe.o ?_ | refine Owe.mk ?_ ?_) | (refine Fork.same ?_; (first | refine fkD ?_ ?_ | refine fkN ?_ ?_ | refine fkM ?_ ?_) <;> intro h) | refine MvQ.stay ?_)
            all_goals try (exfalso; first | omega | contradiction)
            refine again (j + 1) [23] hlj (by omega) ?_
            rw [hFs]
            (refine qis ?_ ?_ <;> (repeat' first | exact rfl | (refine qS ?_; constructor)))
      · rw [hb, Bool.true_or] at hFs
        (repeat' first | (refine Owe.same ?_; first | refine Owe.o ?_ | refine Owe.mk ?_ ?_) | (refine Fork.same ?_; (first | refine fkD ?_ ?_ | refine fkN ?_ ?_ | refine fkM ?_ ?_) <;> intro h) | refine MvQ.stay ?_)
        all_goals try (exfalso; first | omega | contradiction)
        refine again (j + 1) [23] hlj (by omega) ?_
        rw [hFs]
        (refine qis ?_ ?_ <;> (repeat' first | exact rfl | (refine qS ?_; constructor)))
    · have hlj' : ¬ (j : Int) < (s.tk.getD (i : Int).toNat tk0).a.length := by rw [Int.toNat_natCast]; omega
      have hje : j = (s.tk.getD i tk0).a.length := by omega
      have hFa : anyN F j = dpB s k0 i := by rw [hje]; exact hFa
      rw [hFa]
      rcases hd : dpB s k0 i with _ | _
      · rw [hd, if_neg (by decide)] at hfs
        (repeat' first | (refine Owe.same ?_; first | refine Owe.o ?_ | refine Owe.mk ?_ ?_) | (refine Fork.same ?_; (first | refine fkD ?_ ?_ | refine fkN ?_ ?_ | refine fkM ?_ ?_) <;> intro h) | refine MvQ.stay ?_)
        all_goals try (exfalso; first | omega | contradiction)
        refine again (i + 1) [23] ⟨by omega, hlt⟩ (by omega) ?_
        rw [hfs]
        (refine qis ?_ ?_ <;> (repeat' first | exact rfl | (refine qS ?_; constructor)))
      · rw [hd, if_pos rfl] at hfs
        (repeat' first | (refine Owe.same ?_; first | refine Owe.o ?_ | refine Owe.mk ?_ ?_) | (refine Fork.same ?_; (first | refine fkD ?_ ?_ | refine fkN ?_ ?_ | refine fkM ?_ ?_) <;> intro h) | refine MvQ.stay ?_)
        all_goals try (exfalso; first | omega | contradiction)
        refine again (i + 1) [24] ⟨by omega, hlt⟩ (by omega) ?_
        rw [hfs]
        (refine qis ?_ ?_ <;> (repeat' first | exact rfl | (refine qS ?_; constructor)))
        simp
  · have : i = s.tk.length := by omega
    subst this
    (repeat' first | (refine Owe.same ?_; first | refine Owe.o ?_ | refine Owe.mk ?_ ?_) | (refine Fork.same ?_; (first | refine fkD ?_ ?_ | refine fkN ?_ ?_ | refine fkM ?_ ?_) <;> intro h) | refine MvQ.stay ?_)
    exact RetQ.is rfl
theorem C29r {s : Si} {t : St8} {g : List Int} {v : V} {id nx n m : Nat} {e : TypeId} {f : Nat → List D} (hn : n = g.length) (hm : n ≤ m) (hf : ∀ i, i < n → f i = r1 (g.getD i 0)) (h : PFD Tryz.prog 29 [siv s, stv t, .c (ints g)] v) :
    CallD Tryz.prog 29 [siv s, stv t, .c (.ms id n)] [(id, .row e 1 m f false)] nx v [] nx := by
  have c : PFD Tryz.prog 29 [siv s, stv t, .c (.d (.sl 1 n f))] v := by
    refine PFD.ri h (.cons (RI.refl _) (.cons (RI.refl _) (.cons (RI.cI ?_) .nil)))
    subst hn
    exact DI.sl fun i hi => by rw [hf i hi]; exact DIs.refl _
  refine CallD.frz c hm rfl fun i a a' ha ha' => ?_
  match i with
  | 0 => simp at ha ha'; subst ha; subst ha'; exact .inr (RI.refl _)
  | 1 => simp at ha ha'; subst ha; subst ha'; exact .inr (RI.refl _)
  | 2 => simp at ha ha'; subst ha; subst ha'; exact .inl ⟨rfl, rfl⟩
  | i + 3 => simp at ha
/-- What is permitted: all but a task and its dependents. -/
theorem pm_dep {s : Si} {n : Int} {k : Nat} (hk : k < s.tk.length) : pmL (depL s n s.tk.length ++ [n]) k = pmD s n k := by
  have h1 := dep_mem (s := s) (n := n) (x := (k : Int)) (k := s.tk.length) (by omega) (by omega)
  rw [Int.toNat_natCast] at h1
  rw [pmL, pmD, ← h1, ← Bool.not_or, ← Bool.decide_or]
  congr 1
  rw [decide_eq_decide, List.mem_append, List.mem_singleton]
  exact Or.comm
theorem best_dep {s : Si} {t : St8} {n : Int} : bestPp (pmL (depL s n s.tk.length ++ [n])) s t = bestPp (pmD s n) s t := gpF_ext (fun k hk => pm_dep hk) _ _ _ _
end Go.Pw

set_option linter.unusedSimpArgs false
set_option linter.unusedVariables false
set_option maxHeartbeats 8000000
namespace Go.Pw
set_option maxRecDepth 2000
open Go Go.Proofs A1 A2 A3 A4
theorem updP_len {s : Si} {p : List Int} {b : List Int × Int} {N : Nat} (h1 : p.length ≤ N) (h2 : b.1.length ≤ N) : (updP s p b).1.length ≤ N := by
  rw [updP]; split
  · exact h1
  · exact h2
theorem gpF_len {pm : Nat → Bool} {s : Si} {N : Nat} : ∀ (f : Nat) (t : St8) (p : List Int) (b : List Int × Int), p.length + f ≤ N → b.1.length ≤ N → (gpF pm s f t p b).1.length ≤ N
  | 0, t, p, b, h1, h2 => by rw [gpF]; exact updP_len (by omega) h2
  | f + 1, t, p, b, h1, h2 => by
    have key : ∀ k, (gpK pm s f t p (updP s p b) k).1.length ≤ N := fun k => by
      induction k with
      | zero => rw [gpK]; exact updP_len (by omega) h2
      | succ k ih =>
        rw [gpK]; split
        · exact gpF_len f _ _ _ (by rw [List.length_append]; show p.length + 1 + f ≤ N; omega) ih
        · exact ih
    rw [gpF]
    exact key _
theorem bestPp_len {pm : Nat → Bool} {s : Si} {t : St8} (h : OnOk s t) : (bestPp pm s t).1.length < 4611686018427387904 := by
  have n6 := h.ok.n
  have := gpF_len (pm := pm) (s := s) (N := 100) (s.tk.length + 1) t [] ([], 0) (by show 0 + _ ≤ _; omega) (by decide)
  exact Nat.lt_of_le_of_lt this (by decide)
theorem bestP_len {s : Si} {t : St8} (h : OnOk s t) : (bestP s t).1.length < 4611686018427387904 := by
  rw [← bestPp_nil]; exact bestPp_len h
theorem C4 {s : Si} {t : St8} {n : Int} : PFD Tryz.prog 4 [siv s, stv t, vi .i64 n] (vbl true) := by
  have f1 := C9 (s := s)
  have f2 := C10 (t := t)
  by_cases hf : fewP s
  rotate_left
  · rw [fewB, decide_eq_false hf] at f1
    refine pi1 fn4 ?_
    (repeat' first | (refine Owe.same ?_; first | refine Owe.o ?_ | refine Owe.mk ?_ ?_) | (refine Fork.same ?_; (first | refine fkY ?_ | refine fkF ?_ | ((first | refine fkD ?_ ?_ | refine fkN ?_ ?_ | refine fkM ?_ ?_) <;> intro h))) | ((first | refine OpsL.same ?_ | refine OpsDL.same ?_); first | refine oK C8 rfl rfl rfl ?_ | refine oK f1 rfl rfl rfl ?_) | refine MvQ.stay ?_)
    (refine rqK rfl ?_; (repeat' first | exact rfl | (refine qS ?_; constructor)))
  rw [fewB, decide_eq_true hf] at f1
  have hs := (Few.of hf).sm
  by_cases hd : (t.d.length : Int) ≤ 8
  rotate_left
  · rw [decide_eq_false hd] at f2
    refine pi1 fn4 ?_
    (repeat' first | (refine Owe.same ?_; first | refine Owe.o ?_ | refine Owe.mk ?_ ?_) | (refine Fork.same ?_; (first | refine fkY ?_ | refine fkF ?_ | ((first | refine fkD ?_ ?_ | refine fkN ?_ ?_ | refine fkM ?_ ?_) <;> intro h))) | ((first | refine OpsL.same ?_ | refine OpsDL.same ?_); first | refine oK C8 rfl rfl rfl ?_ | refine oK f1 rfl rfl rfl ?_ | refine oK f2 rfl rfl rfl ?_) | refine MvQ.stay ?_)
    (refine rqK rfl ?_; (repeat' first | exact rfl | (refine qS ?_; constructor)))
  rw [decide_eq_true hd] at f2
  have htk := hs.tk
  have c1 := C12 hs
  have c2 := C13 (t := t) (by omega)
  have c3 := C22 (s := s) (t := t) ⟨hs, by omega⟩
  have c4 := C23 (s := s) (t := t) (n := n) ⟨hs, by omega⟩
  have c5 := C24 (s := s) (n := n) hs
  have c6 := C25 hs
  have c7 := C26 (s := s) (n := n) htk
  have c8 := C16 (s := s) (t := t) ⟨hs, by omega⟩
  have c9 := C20 (l := t.d) (n := n) (by omega)
  by_cases hs0 : (siE s).2 = 0
  rotate_left
  · have ho := onE_of (t := t) hs0
    have ed : deE s n = (siE s).2 := by rw [deE, fstE, if_neg hs0]
    have eo : orE s t = (siE s).2 := by rw [orE, if_neg (by rw [ho]; exact hs0), ho]
    have er : raE s t n = (siE s).2 := by
      have : reE s t n = (siE s).2 := by rw [reE, fstE, ho, if_neg hs0]
      rw [raE, if_neg (by rw [this]; exact hs0), this]
    rw [eo, if_neg hs0, if_neg hs0] at c3
    rw [er, if_neg hs0, if_neg hs0] at c4
    rw [ed, if_neg hs0] at c5
    rw [ho] at c8
    generalize (siE s).2 = e at *
    refine pi1 fn4 ?_
    (repeat' first | (refine Owe.same ?_; first | refine Owe.o ?_ | refine Owe.mk ?_ ?_) | (refine Fork.same ?_; (first | refine fkY ?_ | refine fkF ?_ | ((first | refine fkD ?_ ?_ | refine fkN ?_ ?_ | refine fkM ?_ ?_) <;> intro h))) | ((first | refine OpsL.same ?_ | refine OpsDL.same ?_); first | refine pK C8 rfl rfl ?_ | refine pK f1 rfl rfl ?_ | refine pK f2 rfl rfl ?_ | refine pK c1 rfl rfl ?_ | refine pK c2 rfl rfl ?_ | refine pK c3 rfl rfl ?_ | refine pK c4 rfl rfl ?_ | refine pK c5 rfl rfl ?_ | refine pK c6 rfl rfl ?_ | refine pK c8 rfl rfl ?_) | refine MvQ.stay ?_)
    (refine rqK rfl ?_; (repeat' first | exact rfl | (refine qS ?_; constructor)))
  rw [hs0] at c6
  by_cases hn : isTk s n = true
  rotate_left
  · have hn : isTk s n = false := by simpa using hn
    have ed : deE s n = 6 := by rw [deE, hs0, hn]; rfl
    rw [ed, if_neg (by decide)] at c5
    have hn' : wi n 0 ((s.tk.length : Int) - 1) = false := hn
    rw [hn'] at c7
    by_cases h0 : onE s t = 0
    rotate_left
    · have eo : orE s t = onE s t := by rw [orE, if_neg h0]
      have er : raE s t n = onE s t := by
        have : reE s t n = onE s t := by rw [reE, fstE, if_neg h0]
        rw [raE, if_neg (by rw [this]; exact h0), this]
      rw [eo, if_neg h0, if_neg h0] at c3
      rw [er, if_neg h0, if_neg h0] at c4
      generalize onE s t = e at *
      refine pi1 fn4 ?_
      (repeat' first | (refine Owe.same ?_; first | refine Owe.o ?_ | refine Owe.mk ?_ ?_) | (refine Fork.same ?_; (first | refine fkY ?_ | refine fkF ?_ | ((first | refine fkD ?_ ?_ | refine fkN ?_ ?_ | refine fkM ?_ ?_) <;> intro h))) | ((first | refine OpsL.same ?_ | refine OpsDL.same ?_); first | refine pK C8 rfl rfl ?_ | refine pK f1 rfl rfl ?_ | refine pK f2 rfl rfl ?_ | refine pK c1 rfl rfl ?_ | refine pK c2 rfl rfl ?_ | refine pK c3 rfl rfl ?_ | refine pK c4 rfl rfl ?_ | refine pK c5 rfl rfl ?_ | refine pK c6 rfl rfl ?_ | refine pK c7 rfl rfl ?_ | refine pK c8 rfl rfl ?_) | refine MvQ.stay ?_)
      (refine rqK rfl ?_; (repeat' first | exact rfl | (refine qS ?_; constructor)))
    have hO := OnOk.of h0
    have c10 := C28 hO.b
    rw [h0] at c8
    have c11 := C29 (s := s) (t := t) (g := []) ⟨hO, hs.t, by decide⟩
    rw [bestPp_nil] at c11
    have c19 := C18 (l := (bestP s t).1) (m := (bestP s t).1)
    have hbl : (bestP s t).1.length < 4611686018427387904 := bestP_len hO
    have c19 := c19 hbl
    rw [decide_eq_true rfl] at c19
    have er : raE s t n = 6 := by
      have : reE s t n = 6 := by rw [reE, h0, hn]; rfl
      rw [raE, if_neg (by rw [this]; decide), this]
    rw [er, if_neg (by decide), if_neg (by decide)] at c4
    by_cases hr : reB s t = true
    rotate_left
    · have hr : reB s t = false := by simpa using hr
      have eo : orE s t = 24 := by rw [orE, if_pos h0, if_neg (by rw [hr]; decide)]
      rw [eo, if_neg (by decide), if_neg (by decide)] at c3
      rw [hr] at c10
      refine pi1 fn4 ?_
      (repeat' first | (refine Owe.same ?_; first | refine Owe.o ?_ | refine Owe.mk ?_ ?_) | (refine Fork.same ?_; (first | refine fkY ?_ | refine fkF ?_ | ((first | refine fkD ?_ ?_ | refine fkN ?_ ?_ | refine fkM ?_ ?_) <;> intro h))) | ((first | refine OpsL.same ?_ | refine OpsDL.same ?_); first | refine oK C8 rfl rfl rfl ?_ | refine oK f1 rfl rfl rfl ?_ | refine oK f2 rfl rfl rfl ?_ | refine oK c1 rfl rfl rfl ?_ | refine oK c2 rfl rfl rfl ?_ | refine oK c3 rfl rfl rfl ?_ | refine oK c4 rfl rfl rfl ?_ | refine oK c5 rfl rfl rfl ?_ | refine oK c6 rfl rfl rfl ?_ | refine oK c7 rfl rfl rfl ?_ | refine oK c8 rfl rfl rfl ?_ | refine oK c10 rfl rfl rfl ?_) | refine MvQ.stay ?_)
      (refine rqK rfl ?_; (repeat' first | exact rfl | (refine qS ?_; constructor)))
    have eo : orE s t = 0 := by rw [orE, if_pos h0, if_pos hr]
    rw [eo, if_pos rfl, if_pos rfl] at c3
    rw [hr] at c10
    generalize bestP s t = B at *
    refine pi1 fn4 ?_
    (repeat' first | (refine Owe.same ?_; first | refine Owe.o ?_ | refine Owe.mk ?_ ?_) | (refine Fork.same ?_; (first | refine fkY ?_ | refine fkF ?_ | ((first | refine fkD ?_ ?_ | refine fkN ?_ ?_ | refine fkM ?_ ?_) <;> intro h))) | ((first | refine OpsL.same ?_ | refine OpsDL.same ?_); first | refine oK C8 rfl rfl rfl ?_ | refine oK f1 rfl rfl rfl ?_ | refine oK f2 rfl rfl rfl ?_ | refine oK c1 rfl rfl rfl ?_ | refine oK c2 rfl rfl rfl ?_ | refine oK c3 rfl rfl rfl ?_ | refine oK c4 rfl rfl rfl ?_ | refine oK c5 rfl rfl rfl ?_ | refine oK c6 rfl rfl rfl ?_ | refine oK c7 rfl rfl rfl ?_ | refine oK c8 rfl rfl rfl ?_ | refine oK c10 rfl rfl rfl ?_) | refine MvQ.stay ?_)
    (repeat' first | (refine Owe.same ?_; first | refine Owe.o ?_ | refine Owe.mk ?_ ?_) | (refine Fork.same ?_; (first | refine fkY ?_ | refine fkF ?_ | ((first | refine fkD ?_ ?_ | refine fkN ?_ ?_ | refine fkM ?_ ?_) <;> intro h))) | ((first | refine OpsL.same ?_ | refine OpsDL.same ?_); first | refine pK c11 rfl rfl ?_) | refine MvQ.stay ?_)
    (repeat' first | (refine Owe.same ?_; first | refine Owe.o ?_ | refine Owe.mk ?_ ?_) | (refine Fork.same ?_; (first | refine fkY ?_ | refine fkF ?_ | ((first | refine fkD ?_ ?_ | refine fkN ?_ ?_ | refine fkM ?_ ?_) <;> intro h))) | ((first | refine OpsL.same ?_ | refine OpsDL.same ?_); first | refine oK C8 rfl rfl rfl ?_ | refine oK f1 rfl rfl rfl ?_ | refine oK f2 rfl rfl rfl ?_ | refine oK c1 rfl rfl rfl ?_ | refine oK c2 rfl rfl rfl ?_ | refine oK c3 rfl rfl rfl ?_ | refine oK c4 rfl rfl rfl ?_ | refine oK c5 rfl rfl rfl ?_ | refine oK c6 rfl rfl rfl ?_ | refine oK c7 rfl rfl rfl ?_ | refine oK c8 rfl rfl rfl ?_ | refine oK c10 rfl rfl rfl ?_ | refine oK c19 rfl rfl rfl ?_) | refine MvQ.stay ?_)
    (refine rqK rfl ?_; (repeat' first | exact rfl | (refine qS ?_; constructor)))
  have ed : deE s n = 0 := by rw [deE, hs0, hn]; rfl
  obtain ⟨hOs, hnb⟩ := deE.ok ed
  have c27 := C27 (s := s) (n := n) ⟨hOs, hs.t, hnb⟩
  have hdl : (depL s n s.tk.length).length ≤ s.tk.length := fltL_len (dpB s n) _
  have n6' := hOs.n
  have c18 := C18 (l := depL s n s.tk.length) (m := depL s n s.tk.length) (by omega)
  rw [decide_eq_true rfl] at c18
  rw [ed, if_pos rfl] at c5
  have hn' : wi n 0 ((s.tk.length : Int) - 1) = true := hn
  rw [hn'] at c7
  by_cases h0 : onE s t = 0
  rotate_left
  · have eo : orE s t = onE s t := by rw [orE, if_neg h0]
    have er : raE s t n = onE s t := by
      have : reE s t n = onE s t := by rw [reE, fstE, if_neg h0]
      rw [raE, if_neg (by rw [this]; exact h0), this]
    rw [eo, if_neg h0, if_neg h0] at c3
    rw [er, if_neg h0, if_neg h0] at c4
    generalize onE s t = e at *
    refine pi1 fn4 ?_
    (repeat' first | (refine Owe.same ?_; first | refine Owe.o ?_ | refine Owe.mk ?_ ?_) | (refine Fork.same ?_; (first | refine fkY ?_ | refine fkF ?_ | ((first | refine fkD ?_ ?_ | refine fkN ?_ ?_ | refine fkM ?_ ?_) <;> intro h))) | ((first | refine OpsL.same ?_ | refine OpsDL.same ?_); first | refine pK C8 rfl rfl ?_ | refine pK f1 rfl rfl ?_ | refine pK f2 rfl rfl ?_ | refine pK c1 rfl rfl ?_ | refine pK c2 rfl rfl ?_ | refine pK c3 rfl rfl ?_ | refine pK c4 rfl rfl ?_ | refine pK c5 rfl rfl ?_ | refine pK c6 rfl rfl ?_ | refine pK c7 rfl rfl ?_ | refine pK c8 rfl rfl ?_ | refine pK c27 rfl rfl ?_ | refine pK c18 rfl rfl ?_) | refine MvQ.stay ?_)
    (refine rqK rfl ?_; (repeat' first | exact rfl | (refine qS ?_; constructor)))
  have hO := OnOk.of h0
  have c10 := C28 hO.b
  rw [h0] at c8
  have c11 := C29 (s := s) (t := t) (g := []) ⟨hO, hs.t, by decide⟩
  rw [bestPp_nil] at c11
  have c19 := C18 (l := (bestP s t).1) (m := (bestP s t).1)
  have hbl : (bestP s t).1.length < 4611686018427387904 := bestP_len hO
  have c19 := c19 hbl
  rw [decide_eq_true rfl] at c19
  have ere : reE s t n = 0 := by rw [reE, h0, hn]; rfl
  have era : raE s t n = rpX s t n := if_pos ere
  by_cases hm : n ∈ t.d
  · have er : raE s t n = 23 := by rw [era, rpX, decide_eq_true hm]; rfl
    rw [er, if_neg (by decide), if_neg (by decide)] at c4
    rw [decide_eq_true hm] at c9
    by_cases hr : reB s t = true
    rotate_left
    · have hr : reB s t = false := by simpa using hr
      have eo : orE s t = 24 := by rw [orE, if_pos h0, if_neg (by rw [hr]; decide)]
      rw [eo, if_neg (by decide), if_neg (by decide)] at c3
      rw [hr] at c10
      refine pi1 fn4 ?_
      (repeat' first | (refine Owe.same ?_; first | refine Owe.o ?_ | refine Owe.mk ?_ ?_) | (refine Fork.same ?_; (first | refine fkY ?_ | refine fkF ?_ | ((first | refine fkD ?_ ?_ | refine fkN ?_ ?_ | refine fkM ?_ ?_) <;> intro h))) | ((first | refine OpsL.same ?_ | refine OpsDL.same ?_); first | refine oK C8 rfl rfl rfl ?_ | refine oK f1 rfl rfl rfl ?_ | refine oK f2 rfl rfl rfl ?_ | refine oK c1 rfl rfl rfl ?_ | refine oK c2 rfl rfl rfl ?_ | refine oK c3 rfl rfl rfl ?_ | refine oK c4 rfl rfl rfl ?_ | refine oK c5 rfl rfl rfl ?_ | refine oK c6 rfl rfl rfl ?_ | refine oK c7 rfl rfl rfl ?_ | refine oK c8 rfl rfl rfl ?_ | refine oK c27 rfl rfl rfl ?_ | refine oK c18 rfl rfl rfl ?_ | refine oK c10 rfl rfl rfl ?_ | refine oK c9 rfl rfl rfl ?_) | refine MvQ.stay ?_)
      (refine rqK rfl ?_; (repeat' first | exact rfl | (refine qS ?_; constructor)))
    have eo : orE s t = 0 := by rw [orE, if_pos h0, if_pos hr]
    rw [eo, if_pos rfl, if_pos rfl] at c3
    rw [hr] at c10
    generalize bestP s t = B at *
    refine pi1 fn4 ?_
    (repeat' first | (refine Owe.same ?_; first | refine Owe.o ?_ | refine Owe.mk ?_ ?_) | (refine Fork.same ?_; (first | refine fkY ?_ | refine fkF ?_ | ((first | refine fkD ?_ ?_ | refine fkN ?_ ?_ | refine fkM ?_ ?_) <;> intro h))) | ((first | refine OpsL.same ?_ | refine OpsDL.same ?_); first | refine oK C8 rfl rfl rfl ?_ | refine oK f1 rfl rfl rfl ?_ | refine oK f2 rfl rfl rfl ?_ | refine oK c1 rfl rfl rfl ?_ | refine oK c2 rfl rfl rfl ?_ | refine oK c3 rfl rfl rfl ?_ | refine oK c4 rfl rfl rfl ?_ | refine oK c5 rfl rfl rfl ?_ | refine oK c6 rfl rfl rfl ?_ | refine oK c7 rfl rfl rfl ?_ | refine oK c8 rfl rfl rfl ?_ | refine oK c27 rfl rfl rfl ?_ | refine oK c18 rfl rfl rfl ?_ | refine oK c10 rfl rfl rfl ?_ | refine oK c9 rfl rfl rfl ?_) | refine MvQ.stay ?_)
    (repeat' first | (refine Owe.same ?_; first | refine Owe.o ?_ | refine Owe.mk ?_ ?_) | (refine Fork.same ?_; (first | refine fkY ?_ | refine fkF ?_ | ((first | refine fkD ?_ ?_ | refine fkN ?_ ?_ | refine fkM ?_ ?_) <;> intro h))) | ((first | refine OpsL.same ?_ | refine OpsDL.same ?_); first | refine pK c11 rfl rfl ?_) | refine MvQ.stay ?_)
    (repeat' first | (refine Owe.same ?_; first | refine Owe.o ?_ | refine Owe.mk ?_ ?_) | (refine Fork.same ?_; (first | refine fkY ?_ | refine fkF ?_ | ((first | refine fkD ?_ ?_ | refine fkN ?_ ?_ | refine fkM ?_ ?_) <;> intro h))) | ((first | refine OpsL.same ?_ | refine OpsDL.same ?_); first | refine oK C8 rfl rfl rfl ?_ | refine oK f1 rfl rfl rfl ?_ | refine oK f2 rfl rfl rfl ?_ | refine oK c1 rfl rfl rfl ?_ | refine oK c2 rfl rfl rfl ?_ | refine oK c3 rfl rfl rfl ?_ | refine oK c4 rfl rfl rfl ?_ | refine oK c5 rfl rfl rfl ?_ | refine oK c6 rfl rfl rfl ?_ | refine oK c7 rfl rfl rfl ?_ | refine oK c8 rfl rfl rfl ?_ | refine oK c27 rfl rfl rfl ?_ | refine oK c18 rfl rfl rfl ?_ | refine oK c10 rfl rfl rfl ?_ | refine oK c9 rfl rfl rfl ?_ | refine oK c19 rfl rfl rfl ?_) | refine MvQ.stay ?_)
    (refine rqK rfl ?_; (repeat' first | exact rfl | (refine qS ?_; constructor)))
  rw [decide_eq_false hm] at c9
  by_cases hr : reB s t = true
  rotate_left
  · have hr : reB s t = false := by simpa using hr
    have eo : orE s t = 24 := by rw [orE, if_pos h0, if_neg (by rw [hr]; decide)]
    rw [eo, if_neg (by decide), if_neg (by decide)] at c3
    rw [hr] at c10
    have er : raE s t n = 24 := by rw [era, rpX, decide_eq_false hm, hr]; rfl
    rw [er, if_neg (by decide), if_neg (by decide)] at c4
    refine pi1 fn4 ?_
    (repeat' first | (refine Owe.same ?_; first | refine Owe.o ?_ | refine Owe.mk ?_ ?_) | (refine Fork.same ?_; (first | refine fkY ?_ | refine fkF ?_ | ((first | refine fkD ?_ ?_ | refine fkN ?_ ?_ | refine fkM ?_ ?_) <;> intro h))) | ((first | refine OpsL.same ?_ | refine OpsDL.same ?_); first | refine oK C8 rfl rfl rfl ?_ | refine oK f1 rfl rfl rfl ?_ | refine oK f2 rfl rfl rfl ?_ | refine oK c1 rfl rfl rfl ?_ | refine oK c2 rfl rfl rfl ?_ | refine oK c3 rfl rfl rfl ?_ | refine oK c4 rfl rfl rfl ?_ | refine oK c5 rfl rfl rfl ?_ | refine oK c6 rfl rfl rfl ?_ | refine oK c7 rfl rfl rfl ?_ | refine oK c8 rfl rfl rfl ?_ | refine oK c27 rfl rfl rfl ?_ | refine oK c18 rfl rfl rfl ?_ | refine oK c10 rfl rfl rfl ?_ | refine oK c9 rfl rfl rfl ?_) | refine MvQ.stay ?_)
    (refine rqK rfl ?_; (repeat' first | exact rfl | (refine qS ?_; constructor)))
  have eo : orE s t = 0 := by rw [orE, if_pos h0, if_pos hr]
  rw [eo, if_pos rfl, if_pos rfl] at c3
  rw [hr] at c10
  generalize bestP s t = B at *
  have er : raE s t n = 0 := by rw [era, rpX, decide_eq_false hm, hr]; rfl
  rw [er, if_pos rfl, if_pos rfl] at c4
  have c29 := C29 (s := s) (t := t) (g := depL s n s.tk.length ++ [n]) ⟨hO, hs.t, by simp; omega⟩
  rw [best_dep] at c29
  have hbp := bestPp_len (pm := pmD s n) hO
  generalize bestPp (pmD s n) s t = B' at *
  have c18' := C18 (l := B'.1) (m := B'.1) hbp
  rw [decide_eq_true rfl] at c18'
  have hf0 : ∀ i, i < (depL s n s.tk.length).length + 1 → (if i < (depL s n s.tk.length).length then r1 ((depL s n s.tk.length).getD i 0) else [[dI n]].getD (i - (depL s n s.tk.length).length) []) = r1 ((depL s n s.tk.length ++ [n]).getD i 0) := fun i hi => by
    by_cases h1 : i < (depL s n s.tk.length).length
    · rw [if_pos h1]
      congr 1
      simp only [List.getD_eq_getElem?_getD]
      rw [List.getElem?_append_left h1]
    · obtain rfl : i = (depL s n s.tk.length).length := by omega
      rw [if_neg h1, Nat.sub_self]
      simp [List.getD_eq_getElem?_getD]
  have cr := fun {id nx} => C29r (s := s) (t := t) (g := depL s n s.tk.length ++ [n]) (id := id) (nx := nx) (n := (depL s n s.tk.length).length + 1) (m := (depL s n s.tk.length).length + 1) (e := 3) (f := fun i => if i < (depL s n s.tk.length).length then r1 ((depL s n s.tk.length).getD i 0) else [[dI n]].getD (i - (depL s n s.tk.length).length) []) (by simp) (Nat.le_refl _) hf0 c29
  refine pi1 fn4 ?_
  (repeat' first | (refine Owe.same ?_; first | refine Owe.o ?_ | refine Owe.mk ?_ ?_) | (refine Fork.same ?_; (first | refine fkY ?_ | refine fkF ?_ | ((first | refine fkD ?_ ?_ | refine fkN ?_ ?_ | refine fkM ?_ ?_) <;> intro h))) | ((first | refine OpsL.same ?_ | refine OpsDL.same ?_); first | refine oK C8 rfl rfl rfl ?_ | refine oK f1 rfl rfl rfl ?_ | refine oK f2 rfl rfl rfl ?_ | refine oK c1 rfl rfl rfl ?_ | refine oK c2 rfl rfl rfl ?_ | refine oK c3 rfl rfl rfl ?_ | refine oK c4 rfl rfl rfl ?_ | refine oK c5 rfl rfl rfl ?_ | refine oK c6 rfl rfl rfl ?_ | refine oK c7 rfl rfl rfl ?_ | refine oK c8 rfl rfl rfl ?_ | refine oK c27 rfl rfl rfl ?_ | refine oK c18 rfl rfl rfl ?_ | refine oK c10 rfl rfl rfl ?_ | refine oK c9 rfl rfl rfl ?_) | refine MvQ.stay ?_)
  (repeat' first | (refine Owe.same ?_; first | refine Owe.o ?_ | refine Owe.mk ?_ ?_) | (refine Fork.same ?_; (first | refine fkY ?_ | refine fkF ?_ | ((first | refine fkD ?_ ?_ | refine fkN ?_ ?_ | refine fkM ?_ ?_) <;> intro h))) | ((first | refine OpsL.same ?_ | refine OpsDL.same ?_); first | refine pK c11 rfl rfl ?_) | refine MvQ.stay ?_)
  (repeat' first | (refine Owe.same ?_; first | refine Owe.o ?_ | refine Owe.mk ?_ ?_) | (refine Fork.same ?_; (first | refine fkY ?_ | refine fkF ?_ | ((first | refine fkD ?_ ?_ | refine fkN ?_ ?_ | refine fkM ?_ ?_) <;> intro h))) | ((first | refine OpsL.same ?_ | refine OpsDL.same ?_); first | refine oK c19 rfl rfl rfl ?_ | refine oK c7 rfl rfl rfl ?_ | refine oK c9 rfl rfl rfl ?_ | refine oK c10 rfl rfl rfl ?_) | refine MvQ.stay ?_)
  refine OpsDL.cd (C27o (s := s) (n := n) ⟨hOs, hs.t, hnb⟩) rfl rfl (RIs.rfl' _) ?_
  (repeat' first | (refine Owe.same ?_; first | refine Owe.o ?_ | refine Owe.mk ?_ ?_) | (refine Fork.same ?_; (first | refine fkD ?_ ?_ | refine fkN ?_ ?_ | refine fkM ?_ ?_) <;> intro h) | refine MvQ.stay ?_)
  refine OpsDL.cm [(26, _)] [] cr (sub_cons rfl sub_nil) rfl rfl (RIs.rfl' _) ?_
  (repeat' first | (refine Owe.same ?_; first | refine Owe.o ?_ | refine Owe.mk ?_ ?_) | (refine Fork.same ?_; (first | refine fkY ?_ | refine fkF ?_ | ((first | refine fkD ?_ ?_ | refine fkN ?_ ?_ | refine fkM ?_ ?_) <;> intro h))) | ((first | refine OpsL.same ?_ | refine OpsDL.same ?_); first | refine oK c18' rfl rfl rfl ?_) | refine MvQ.stay ?_)
  (refine rqK rfl ?_; (repeat' first | exact rfl | (refine qS ?_; constructor)))
  simp
end Go.Pw

namespace Go.Proofs.YtnimcgmgnmlfgaaGreat
open Go.ChangeShapes Go.WideShapes Go.ChangeAt Go.RowKit Go.Pw
theorem Tryz.own : ownKnob Tryz.prog.godebug = none := by kernel_rfl
theorem Tryz.laidOut : laidOutB Tryz.prog = true := by kernel_rfl
theorem shapes : shAll Tryz.prog [27, 29, 3] = some [(true, siSh), (true, stSh), (false, [.int .i64])] := by kernel_rfl
theorem law (args : List V) (h : ArgOk [(true, siSh), (true, stSh), (false, [.int .i64])] args) : PFD Tryz.prog 4 args (vbl true) := by
  match args, h with
  | [v0, v1, v2], ⟨h0, h1, h2, _⟩ =>
    obtain ⟨s0, r0, q0⟩ := arg_site h0
    obtain ⟨t1, r1, q1⟩ := arg_state h1
    obtain ⟨l2, rfl, q2⟩ := arg_int h2
    exact PFD.ri C4 (.cons r0 (.cons r1 (.cons (RI.refl _) .nil)))
set_option maxRecDepth 100000 in
theorem lifted (os : Os) (started : os.Started) (H : Type) (enc : TypeId × Value → H) :
    ReturnsInHanded {} Tryz.checked os 4 .any (Rows.divePlansSpec.pre6 enc Tryz.prog Tryz.f4 Rows.divePlansRow.domain false) (Rows.divePlansSpec.post enc Tryz.prog Tryz.f4 false true false false) := by
  refine returnsInHanded_of_change (C := Tryz.checked) Tryz.own started (by kernel_rfl) Tryz.func4
    (ChangeSpec.witness6 (enc := enc) (C := Tryz.checked) false ⟨#[], #[.agg #[.slice none 0 0, .slice none 0 0, .slice none 0 0, .slice none 0 0, .int .i64 0, .int .i64 0, .int .i64 0, .int .i64 0], .agg #[.int .i64 0, .int .i64 0, .int .i64 0, .int .i64 0, .slice none 0 0], .int .i64 0], []⟩ 8 (by kernel_rfl) (by kernel_rfl) (by kernel_rfl) (by kernel_rfl)) ?_
  intro W base args ds gs before hval0 hW hcnd _
  exact law_calls (P := Tryz.prog) (F := Tryz.f4) (tb := 4) Tryz.laidOut (by rw [Tryz.params4]; exact shapes) rfl (fun ds hl => by
    rw [Tryz.params4] at hl
    match ds, hl with
    | [d0, d1, d2], _ => rfl) (by kernel_rfl) Tryz.underlying4 law W base args ds gs before hval0 hW
theorem row_holds : Rows.DivePlansSaid :=
  OpenClaim.holds_of_wide 4 Tryz.f4 rfl rfl rfl rfl rfl rfl rfl ⟨rfl, rfl, rfl, rfl, rfl⟩ rfl rfl rfl rfl rfl (by kernel_rfl) Tryz.func4 (by kernel_rfl)
    (of_decide_eq_true (by kernel_rfl)) (by unfold Func.isWrapper; rw [if_neg (by decide +kernel)]; exact ⟨rfl, rfl⟩)
    (fun os started H enc _ => lifted os started H enc)
end Go.Proofs.YtnimcgmgnmlfgaaGreat
