/- Steps toward the row of this claim: part 4 of 6. Proved as named below, on no condition but those that each theorem states. -/
import Derived.Test.YtailfkllanegeaaGreatDoorTopDiveReturnC
import Derived.Shelf.Spec.SlicesInsert
import Derived.Shelf.Spec.SlicesInsertGrow
import Derived.Shelf.Slices.Clone
import Derived.Test.YtailfkllanegeaaGreatDoorProg
set_option linter.unusedSimpArgs false
set_option linter.unusedVariables false
namespace Go.Pw
set_option maxRecDepth 2000
open Go Go.Proofs A1 A2 A3 A4
def eachN (f : Nat → Int) : Nat → Nat → Int × Int
  | _, 0 => (0, 0)
  | k, m + 1 => if f k = 0 then eachN f (k + 1) m else (k, f k)
theorem eachN_from {f : Nat → Int} {n : Nat} : ∀ {k : Nat}, k ≤ n → (∀ i, i < k → f i = 0) → eachN f 0 n = eachN f k (n - k)
  | 0, _, _ => rfl
  | k + 1, hk, h => by
    rw [eachN_from (k := k) (by omega) fun i hi => h i (by omega), show n - k = (n - (k + 1)) + 1 by omega, eachN, if_pos (h k (by omega))]
theorem eachN_e {f : Nat → Int} {k n : Nat} (hk : k < n) (h : ∀ i, i < k → f i = 0) (hx : ¬ f k = 0) : eachN f 0 n = ((k : Int), f k) := by
  rw [eachN_from (Nat.le_of_lt hk) h, show n - k = (n - k - 1) + 1 by omega, eachN, if_neg hx]
theorem eachN_z {f : Nat → Int} {n : Nat} (h : ∀ i, i < n → f i = 0) : eachN f 0 n = (0, 0) := by
  rw [eachN_from (Nat.le_refl n) h, Nat.sub_self]; rfl
theorem eachN_ok {f : Nat → Int} {n : Nat} : (eachN f 0 n).2 = 0 ↔ ∀ i, i < n → f i = 0 := by
  have : ∀ m k, (eachN f k m).2 = 0 ↔ ∀ i, k ≤ i → i < k + m → f i = 0 := fun m => by
    induction m with
    | zero => intro k; exact ⟨fun _ i h1 h2 => by omega, fun _ => rfl⟩
    | succ m ih =>
      intro k
      rw [eachN]
      split
      · rename_i h; rw [ih]
        refine ⟨fun hh i h1 h2 => ?_, fun hh i h1 h2 => hh i (by omega) (by omega)⟩
        rcases Nat.eq_or_lt_of_le h1 with rfl | h3
        · exact h
        · exact hh i h3 (by omega)
      · rename_i h; exact ⟨fun hh => absurd hh h, fun hh => absurd (hh k (Nat.le_refl _) (by omega)) h⟩
  rw [this]
  exact ⟨fun h i hi => h i (Nat.zero_le _) (by omega), fun h i _ hi => h i (by omega)⟩
theorem succ_all {P : Nat → Prop} {k : Nat} (h : ∀ i, i < k → P i) (hk : P k) : ∀ i, i < k + 1 → P i := fun i hi => by
  rcases Nat.lt_succ_iff_lt_or_eq.1 hi with h3 | rfl
  · exact h i h3
  · exact hk
abbrev lastI (l : List Int) (k : Nat) : Int := if k = 0 then -1 else l.getD (k - 1) 0
abbrev ascN (l : List Int) (b : Int) (i : Nat) : Int := fstE [unl (0 ≤ l.getD i 0 ∧ l.getD i 0 ≤ b - 1) 6, unl (lastI l i < l.getD i 0) 9]
def ascE (l : List Int) (b : Int) : Int × Int := eachN (ascN l b) 0 l.length
theorem C259 {l : List Int} {b : Int} : (l.length ≤ 1000000 ∧ -1000000 ≤ b ∧ b ≤ 1000000) → PFD Tryz.prog 259 [.c (ints l), vi .i64 b] (.tup [vi .i64 (ascE l b).1, vi .i64 (ascE l b).2]) := fun ⟨hl, hb⟩ => by
  obtain ⟨q, hq⟩ : ∃ q, q = ascE l b := ⟨_, rfl⟩
  rw [← hq]
  refine pi2 fn259 ?_
  (repeat' first | (refine Owe.same ?_; first | refine Owe.o ?_ | refine Owe.mk ?_ ?_) | (refine Fork.same ?_; (first | refine fkD ?_ ?_ | refine fkN ?_ ?_ | refine fkM ?_ ?_) <;> intro h) | refine MvQ.stay ?_)
  refine Ops.cs rfl rfl (CallS.of fn220 rfl ?_)
  (repeat' first | (refine Owe.same ?_; first | refine Owe.o ?_ | refine Owe.mk ?_ ?_) | (refine Fork.same ?_; (first | refine fkD ?_ ?_ | refine fkN ?_ ?_ | refine fkM ?_ ?_) <;> intro h) | refine MvQ.stay ?_)
  refine Sat.lp (fun k : Nat => ⟨[(11, vi .i64 k), (10, vi .i64 l.length), (9, .c (ints l)), (1, .c (.fn 290 [0, 1]))], [(1, .box [int (lastI l k)]), (0, .box [int b])], 2⟩) (fun k => k ≤ l.length ∧ ∀ i, i < k → ascN l b i = 0) (fun k => l.length - k) 0 [] ⟨Nat.zero_le _, fun i hi => by omega⟩ ?_ ?_
  · (refine qis ?_ ?_ <;> (repeat' first | exact rfl | (refine qS ?_; constructor)))
  · intro k hk
    refine Fork.dec (fun hlt => ?_) (fun hlt => ?_)
    · have hlt : k < l.length := by omega
      obtain ⟨last, hla⟩ : ∃ x, x = lastI l k := ⟨_, rfl⟩
      rw [← hla]
      (repeat' first | (refine Owe.same ?_; first | refine Owe.o ?_ | refine Owe.mk ?_ ?_) | (refine Fork.same ?_; (first | refine fkD ?_ ?_ | refine fkN ?_ ?_ | refine fkM ?_ ?_) <;> intro h) | refine MvQ.stay ?_)
      refine Ops.cs rfl rfl (CallS.of fn290 rfl ?_)
      (repeat' first | (refine Owe.same ?_; first | refine Owe.o ?_ | refine Owe.mk ?_ ?_) | (refine Fork.same ?_; (first | refine fkD ?_ ?_ | refine fkN ?_ ?_ | refine fkM ?_ ?_) <;> intro h) | ((first | refine OpsL.same ?_ | refine OpsDL.same ?_); first | refine pK C168 rfl rfl ?_ | refine pK C152 rfl rfl ?_ | refine pK C151 rfl rfl ?_) | refine MvQ.stay ?_)
      · have h : ¬ fstE [unl (0 ≤ l.getD k 0 ∧ l.getD k 0 ≤ b - 1) 6, unl (last < l.getD k 0) 9] = 0 := h
        rw [hla] at h
        have e := eachN_e hlt hk.2 h
        rw [ascE, e] at hq
        subst hq
        (refine rqK rfl ?_; (repeat' first | exact rfl | (refine qS ?_; constructor)))
        rw [hla]; rfl
      · have h : fstE [unl (0 ≤ l.getD k 0 ∧ l.getD k 0 ≤ b - 1) 6, unl (last < l.getD k 0) 9] = 0 := h
        rw [hla] at h
        refine again (k + 1) [] ⟨hlt, succ_all hk.2 h⟩ (by omega) ?_
        (refine qis ?_ ?_ <;> (repeat' first | exact rfl | (refine qS ?_; constructor)))
    · (repeat' first | (refine Owe.same ?_; first | refine Owe.o ?_ | refine Owe.mk ?_ ?_) | (refine Fork.same ?_; (first | refine fkD ?_ ?_ | refine fkN ?_ ?_ | refine fkM ?_ ?_) <;> intro h) | refine MvQ.stay ?_)
      have : k = l.length := by omega
      subst this
      rw [ascE, eachN_z hk.2] at hq
      subst hq
      (refine rqK rfl ?_; (repeat' first | exact rfl | (refine qS ?_; constructor)))
theorem C206 {l : List Int} {b : Int} : (l.length ≤ 1000000 ∧ -1000000 ≤ b ∧ b ≤ 1000000) → PFD Tryz.prog 206 [.c (ints l), vi .i64 b] (vi .i64 (ascE l b).2) := fun h => by
  refine pi1 fn206 ?_
  (repeat' first | (refine Owe.same ?_; first | refine Owe.o ?_ | refine Owe.mk ?_ ?_) | (refine Fork.same ?_; (first | refine fkD ?_ ?_ | refine fkN ?_ ?_ | refine fkM ?_ ?_) <;> intro h) | ((first | refine OpsL.same ?_ | refine OpsDL.same ?_); first | refine pK (C259 h) rfl rfl ?_) | refine MvQ.stay ?_)
  (refine rqK rfl ?_; (repeat' first | exact rfl | (refine qS ?_; constructor)))
def anyN (f : Nat → Bool) : Nat → Bool
  | 0 => false
  | k + 1 => anyN f k || f k
theorem anyN_f {f : Nat → Bool} : ∀ {k : Nat}, anyN f k = false ↔ ∀ i, i < k → f i = false
  | 0 => ⟨fun _ i hi => by omega, fun _ => rfl⟩
  | k + 1 => by
    rw [anyN, Bool.or_eq_false_iff, anyN_f]
    exact ⟨fun h => succ_all h.1 h.2, fun h => ⟨fun i hi => h i (by omega), h k (by omega)⟩⟩
theorem anyN_t {f : Nat → Bool} {k n : Nat} (hk : k < n) (h : f k = true) : anyN f n = true := by
  rcases hb : anyN f n with _ | _
  · rw [anyN_f.1 hb k hk] at h; exact h
  · rfl
def idxN (f : Nat → Bool) : Nat → Nat → Int
  | _, 0 => -1
  | k, m + 1 => if f k = true then k else idxN f (k + 1) m
theorem idxN_from {f : Nat → Bool} {n : Nat} : ∀ {k : Nat}, k ≤ n → (∀ i, i < k → f i = false) → idxN f 0 n = idxN f k (n - k)
  | 0, _, _ => rfl
  | k + 1, hk, h => by
    rw [idxN_from (k := k) (by omega) fun i hi => h i (by omega), show n - k = (n - (k + 1)) + 1 by omega, idxN, if_neg (by rw [h k (by omega)]; decide)]
theorem idxN_e {f : Nat → Bool} {k n : Nat} (hk : k < n) (h : ∀ i, i < k → f i = false) (hx : f k = true) : idxN f 0 n = k := by
  rw [idxN_from (Nat.le_of_lt hk) h, show n - k = (n - k - 1) + 1 by omega, idxN, if_pos hx]
theorem idxN_z {f : Nat → Bool} {n : Nat} (h : ∀ i, i < n → f i = false) : idxN f 0 n = -1 := by
  rw [idxN_from (Nat.le_refl n) h, Nat.sub_self]; rfl
theorem anyN_first {f : Nat → Bool} : ∀ {n : Nat}, anyN f n = true → ∃ k, k < n ∧ (∀ i, i < k → f i = false) ∧ f k = true
  | 0, h => by cases h
  | n + 1, h => by
    rcases hb : anyN f n with _ | _
    · rw [anyN, hb, Bool.false_or] at h; exact ⟨n, Nat.lt_succ_self _, anyN_f.1 hb, h⟩
    · obtain ⟨k, h1, h2⟩ := anyN_first hb; exact ⟨k, by omega, h2⟩
theorem idxN_any {f : Nat → Bool} {n : Nat} : decide (idxN f 0 n ≥ 0) = anyN f n := by
  rcases hb : anyN f n with _ | _
  · rw [idxN_z (anyN_f.1 hb)]; rfl
  · obtain ⟨k, h1, h2, h3⟩ := anyN_first hb
    rw [idxN_e h1 h2 h3]; simp
theorem C222 {g : FuncId} {rows : List (List D)} {l : List Int} {f : Nat → Bool} (hg : ∀ i, i < l.length → PFD Tryz.prog g (vi .i64 (l.getD i 0) :: rows.map fun r => .c (.rp r)) (vbl (f i))) : l.length ≤ 1000000 → PFD Tryz.prog 222 [.c (ints l), .c (.fnR g rows)] (vi .i64 (idxN f 0 l.length)) := fun hl => by
  refine pi1 fn222 ?_
  (repeat' first | (refine Owe.same ?_; first | refine Owe.o ?_ | refine Owe.mk ?_ ?_) | (refine Fork.same ?_; (first | refine fkD ?_ ?_ | refine fkN ?_ ?_ | refine fkM ?_ ?_) <;> intro h) | refine MvQ.stay ?_)
  refine Sat.lp0 (fun k : Nat => [(8, vi .i64 k), (7, vi .i64 l.length), (6, .c (ints l)), (0, .c (ints l)), (1, .c (.fnR g rows))]) (fun k => k ≤ l.length ∧ ∀ i, i < k → f i = false) (fun k => l.length - k) 0 ⟨Nat.zero_le _, fun i hi => by omega⟩ (by ((first | refine qen ?_ | refine qvs ?_ | refine qeq ?_ | refine qst ?_ | refine qv ?_ | refine qc ?_ | refine qe ?_ | refine qcs ?_ | skip); (repeat' first | exact rfl | (refine qS ?_; constructor)))) ?_
  intro k hk
  refine Fork.dec (fun hlt => ?_) (fun hlt => ?_)
  · have hlt : k < l.length := by omega
    (repeat' first | (refine Owe.same ?_; first | refine Owe.o ?_ | refine Owe.mk ?_ ?_) | (refine Fork.same ?_; (first | refine fkD ?_ ?_ | refine fkN ?_ ?_ | refine fkM ?_ ?_) <;> intro h) | ((first | refine OpsL.same ?_ | refine OpsDL.same ?_); first | refine pR (hg k hlt) rfl rfl ?_) | refine MvQ.stay ?_)
    · (refine rqK rfl ?_; (repeat' first | exact rfl | (refine qS ?_; constructor))); rw [idxN_e hlt hk.2 h]
    · exact again0 (k + 1) ⟨hlt, succ_all hk.2 h⟩ (by omega) (by ((first | refine qen ?_ | refine qvs ?_ | refine qeq ?_ | refine qst ?_ | refine qv ?_ | refine qc ?_ | refine qe ?_ | refine qcs ?_ | skip); (repeat' first | exact rfl | (refine qS ?_; constructor))))
  · have : k = l.length := by omega
    subst this
    (repeat' first | (refine Owe.same ?_; first | refine Owe.o ?_ | refine Owe.mk ?_ ?_) | (refine Fork.same ?_; (first | refine fkD ?_ ?_ | refine fkN ?_ ?_ | refine fkM ?_ ?_) <;> intro h) | refine MvQ.stay ?_)
    (refine rqK rfl ?_; (repeat' first | exact rfl | (refine qS ?_; constructor))); rw [idxN_z hk.2]
theorem C158 {g : FuncId} {rows : List (List D)} {l : List Int} {f : Nat → Bool} (hg : ∀ i, i < l.length → PFD Tryz.prog g (vi .i64 (l.getD i 0) :: rows.map fun r => .c (.rp r)) (vbl (f i))) : l.length ≤ 1000000 → PFD Tryz.prog 158 [.c (ints l), .c (.fnR g rows)] (vbl (anyN f l.length)) := fun hl => by
  refine pi1 fn158 ?_
  (repeat' first | (refine Owe.same ?_; first | refine Owe.o ?_ | refine Owe.mk ?_ ?_) | (refine Fork.same ?_; (first | refine fkD ?_ ?_ | refine fkN ?_ ?_ | refine fkM ?_ ?_) <;> intro h) | ((first | refine OpsL.same ?_ | refine OpsDL.same ?_); first | refine pK (C222 hg hl) rfl rfl ?_) | refine MvQ.stay ?_)
  (refine rqK rfl ?_; (repeat' first | exact rfl | (refine qS ?_; constructor)))
  exact idxN_any
theorem C222f {g : FuncId} {l : List Int} {f : Nat → Bool} (hg : ∀ i, i < l.length → PFD Tryz.prog g [vi .i64 (l.getD i 0)] (vbl (f i))) : l.length ≤ 1000000 → PFD Tryz.prog 222 [.c (ints l), .c (.fn g [])] (vi .i64 (idxN f 0 l.length)) := fun hl => by
  refine pi1 fn222 ?_
  (repeat' first | (refine Owe.same ?_; first | refine Owe.o ?_ | refine Owe.mk ?_ ?_) | (refine Fork.same ?_; (first | refine fkD ?_ ?_ | refine fkN ?_ ?_ | refine fkM ?_ ?_) <;> intro h) | refine MvQ.stay ?_)
  refine Sat.lp0 (fun k : Nat => [(8, vi .i64 k), (7, vi .i64 l.length), (6, .c (ints l)), (0, .c (ints l)), (1, .c (.fn g []))]) (fun k => k ≤ l.length ∧ ∀ i, i < k → f i = false) (fun k => l.length - k) 0 ⟨Nat.zero_le _, fun i hi => by omega⟩ (by ((first | refine qen ?_ | refine qvs ?_ | refine qeq ?_ | refine qst ?_ | refine qv ?_ | refine qc ?_ | refine qe ?_ | refine qcs ?_ | skip); (repeat' first | exact rfl | (refine qS ?_; constructor)))) ?_
  intro k hk
  refine Fork.dec (fun hlt => ?_) (fun hlt => ?_)
  · have hlt : k < l.length := by omega
    (repeat' first | (refine Owe.same ?_; first | refine Owe.o ?_ | refine Owe.mk ?_ ?_) | (refine Fork.same ?_; (first | refine fkD ?_ ?_ | refine fkN ?_ ?_ | refine fkM ?_ ?_) <;> intro h) | ((first | refine OpsL.same ?_ | refine OpsDL.same ?_); first | refine pK (hg k hlt) rfl rfl ?_) | refine MvQ.stay ?_)
    · (refine rqK rfl ?_; (repeat' first | exact rfl | (refine qS ?_; constructor))); rw [idxN_e hlt hk.2 h]
    · exact again0 (k + 1) ⟨hlt, succ_all hk.2 h⟩ (by omega) (by ((first | refine qen ?_ | refine qvs ?_ | refine qeq ?_ | refine qst ?_ | refine qv ?_ | refine qc ?_ | refine qe ?_ | refine qcs ?_ | skip); (repeat' first | exact rfl | (refine qS ?_; constructor))))
  · have : k = l.length := by omega
    subst this
    (repeat' first | (refine Owe.same ?_; first | refine Owe.o ?_ | refine Owe.mk ?_ ?_) | (refine Fork.same ?_; (first | refine fkD ?_ ?_ | refine fkN ?_ ?_ | refine fkM ?_ ?_) <;> intro h) | refine MvQ.stay ?_)
    (refine rqK rfl ?_; (repeat' first | exact rfl | (refine qS ?_; constructor))); rw [idxN_z hk.2]
theorem C158f {g : FuncId} {l : List Int} {f : Nat → Bool} (hg : ∀ i, i < l.length → PFD Tryz.prog g [vi .i64 (l.getD i 0)] (vbl (f i))) : l.length ≤ 1000000 → PFD Tryz.prog 158 [.c (ints l), .c (.fn g [])] (vbl (anyN f l.length)) := fun hl => by
  refine pi1 fn158 ?_
  (repeat' first | (refine Owe.same ?_; first | refine Owe.o ?_ | refine Owe.mk ?_ ?_) | (refine Fork.same ?_; (first | refine fkD ?_ ?_ | refine fkN ?_ ?_ | refine fkM ?_ ?_) <;> intro h) | ((first | refine OpsL.same ?_ | refine OpsDL.same ?_); first | refine pK (C222f hg hl) rfl rfl ?_) | refine MvQ.stay ?_)
  (refine rqK rfl ?_; (repeat' first | exact rfl | (refine qS ?_; constructor)))
  exact idxN_any
theorem anyN_mem {p : Int → Bool} {l : List Int} : anyN (fun i => p (l.getD i 0)) l.length = l.any p := by
  rw [Bool.eq_iff_iff, List.any_eq_true]
  constructor
  · intro h
    obtain ⟨k, hk, _, h3⟩ := anyN_first h
    refine ⟨l.getD k 0, ?_, h3⟩
    rw [List.getD_eq_getElem?_getD, List.getElem?_eq_getElem hk]; exact List.getElem_mem _
  · rintro ⟨x, hx, hp⟩
    obtain ⟨k, hk, rfl⟩ := List.getElem_of_mem hx
    refine anyN_t hk ?_
    rw [List.getD_eq_getElem?_getD, List.getElem?_eq_getElem hk]; exact hp
abbrev oddI (l : List Int) : Bool := l.any fun n => !decide (isN n)
theorem C230 {n : Int} : PFD Tryz.prog 230 [vi .i64 n] (vbl (!decide (isN n))) := by
  refine pi1 fn230 ?_
  (repeat' first | (refine Owe.same ?_; first | refine Owe.o ?_ | refine Owe.mk ?_ ?_) | (refine Fork.same ?_; (first | refine fkD ?_ ?_ | refine fkN ?_ ?_ | refine fkM ?_ ?_) <;> intro h) | ((first | refine OpsL.same ?_ | refine OpsDL.same ?_); first | refine pK C154 rfl rfl ?_) | refine MvQ.stay ?_)
  (refine rqK rfl ?_; (repeat' first | exact rfl | (refine qS ?_; constructor)))
theorem C203 {n : Int} : PFD Tryz.prog 203 [vi .i64 n] (vbl (!decide (isN n))) := by
  refine pi1 fn203 ?_
  (repeat' first | (refine Owe.same ?_; first | refine Owe.o ?_ | refine Owe.mk ?_ ?_) | (refine Fork.same ?_; (first | refine fkD ?_ ?_ | refine fkN ?_ ?_ | refine fkM ?_ ?_) <;> intro h) | ((first | refine OpsL.same ?_ | refine OpsDL.same ?_); first | refine pK C154 rfl rfl ?_) | refine MvQ.stay ?_)
  (refine rqK rfl ?_; (repeat' first | exact rfl | (refine qS ?_; constructor)))
theorem C158o {l : List Int} : l.length ≤ 1000000 → PFD Tryz.prog 158 [.c (ints l), .c (.fn 230 [])] (vbl (oddI l)) := fun hl => by
  have := C158f (l := l) (fun i hi => C230 (n := l.getD i 0)) hl
  rwa [anyN_mem (p := fun n => !decide (isN n))] at this
theorem C158o' {l : List Int} : l.length ≤ 1000000 → PFD Tryz.prog 158 [.c (ints l), .c (.fn 203 [])] (vbl (oddI l)) := fun hl => by
  have := C158f (l := l) (fun i hi => C203 (n := l.getD i 0)) hl
  rwa [anyN_mem (p := fun n => !decide (isN n))] at this
abbrev nmI (s : ByteArray) (i : Nat) : Int := ((s.data.toList.getD i 0).toNat : Int)
abbrev chP (c : Int) (i : Nat) : Prop := ((97 ≤ c ∧ c ≤ 122) ∨ (65 ≤ c ∧ c ≤ 90)) ∨ ((i : Int) ≠ 0 ∧ (c = 45 ∨ (48 ≤ c ∧ c ≤ 57)))
abbrev nmP (s : ByteArray) : Prop := (∀ i, i < s.size → chP (nmI s i) i) ∧ 1 ≤ (s.size : Int) ∧ (s.size : Int) ≤ 12
abbrev str (s : ByteArray) : C := .d (.v (.string s))
theorem C204 {s : ByteArray} : s.size ≤ 1000000 → PFD Tryz.prog 204 [.c (str s)] (vbl (decide (nmP s))) := fun hs => by
  refine pi1 fn204 ?_
  (repeat' first | (refine Owe.same ?_; first | refine Owe.o ?_ | refine Owe.mk ?_ ?_) | (refine Fork.same ?_; (first | refine fkD ?_ ?_ | refine fkN ?_ ?_ | refine fkM ?_ ?_) <;> intro h) | refine MvQ.stay ?_)
  refine Sat.lp0 (fun k : Nat => [(8, vi .i64 k), (7, vi .i64 s.size), (0, .c (str s))]) (fun k => k ≤ s.size ∧ ∀ i, i < k → chP (nmI s i) i) (fun k => s.size - k) 0 ⟨Nat.zero_le _, fun i hi => by omega⟩ (by ((first | refine qen ?_ | refine qvs ?_ | refine qeq ?_ | refine qst ?_ | refine qv ?_ | refine qc ?_ | refine qe ?_ | refine qcs ?_ | skip); (repeat' first | exact rfl | (refine qS ?_; constructor)))) ?_
  intro k hk
  refine Fork.dec (fun hlt => ?_) (fun hlt => ?_)
  · have hlt : k < s.size := by omega
    have cont : chP (nmI s k) k → ∀ i, i < k + 1 → chP (nmI s i) i := fun h => succ_all hk.2 h
    have stop : ¬ chP (nmI s k) k → decide (nmP s) = false := fun h => by
      rw [decide_eq_false_iff_not]; exact fun hh => h (hh.1 k hlt)
    (repeat' first | (refine Owe.same ?_; first | refine Owe.o ?_ | refine Owe.mk ?_ ?_) | (refine Fork.same ?_; (first | refine fkD ?_ ?_ | refine fkN ?_ ?_ | refine fkM ?_ ?_) <;> intro h) | refine MvQ.stay ?_)
    all_goals simp only [Int.toNat_natCast] at *
    all_goals first
      | refine again0 (k + 1) ⟨hlt, cont (by simp only [chP, nmI]; omega)⟩ (by omega) (by ((first | refine qen ?_ | refine qvs ?_ | refine qeq ?_ | refine qst ?_ | refine qv ?_ | refine qc ?_ | refine qe ?_ | refine qcs ?_ | skip); (repeat' first | exact rfl | (refine qS ?_; constructor))))
      | (refine rqK rfl ?_; (repeat' first | exact rfl | (refine qS ?_; constructor))); exact stop (by simp only [chP, nmI]; omega)
  · have : k = s.size := by omega
    subst this
    (repeat' first | (refine Owe.same ?_; first | refine Owe.o ?_ | refine Owe.mk ?_ ?_) | (refine Fork.same ?_; (first | refine fkD ?_ ?_ | refine fkN ?_ ?_ | refine fkM ?_ ?_) <;> intro h) | ((first | refine OpsL.same ?_ | refine OpsDL.same ?_); first | refine pK C168 rfl rfl ?_) | refine MvQ.stay ?_)
    (refine rqK rfl ?_; (repeat' first | exact rfl | (refine qS ?_; constructor)))
    exact decide_eq_decide.2 ⟨fun h => ⟨hk.2, h⟩, fun h => h.2⟩
theorem C117 {s : ByteArray} : s.size ≤ 1000000 → PFD Tryz.prog 117 [.c (str s)] (vbl (decide (nmP s))) := fun hs => by
  refine pi1 fn117 ?_
  by_cases hz : 1 ≤ (s.size : Int) ∧ (s.size : Int) ≤ 12
  · (repeat' first | (refine Owe.same ?_; first | refine Owe.o ?_ | refine Owe.mk ?_ ?_) | (refine Fork.same ?_; (first | refine fkY ?_ | refine fkF ?_ | ((first | refine fkD ?_ ?_ | refine fkN ?_ ?_ | refine fkM ?_ ?_) <;> intro h))) | ((first | refine OpsL.same ?_ | refine OpsDL.same ?_); first | refine oK C168 rfl rfl rfl ?_) | refine MvQ.stay ?_)
    refine Sat.lp0 (fun k : Nat => [(3, vi .i64 k), (0, .c (str s))]) (fun k => k ≤ s.size ∧ ∀ i, i < k → chP (nmI s i) i) (fun k => s.size - k) 0 ⟨Nat.zero_le _, fun i hi => by omega⟩ (by ((first | refine qen ?_ | refine qvs ?_ | refine qeq ?_ | refine qst ?_ | refine qv ?_ | refine qc ?_ | refine qe ?_ | refine qcs ?_ | skip); (repeat' first | exact rfl | (refine qS ?_; constructor)))) ?_
    intro k hk
    refine Fork.dec (fun hlt => ?_) (fun hlt => ?_)
    · have hlt : k < s.size := by omega
      have cont : chP (nmI s k) k → ∀ i, i < k + 1 → chP (nmI s i) i := fun h => succ_all hk.2 h
      have stop : ¬ chP (nmI s k) k → decide (nmP s) = false := fun h => by
        rw [decide_eq_false_iff_not]; exact fun hh => h (hh.1 k hlt)
      (repeat' first | (refine Owe.same ?_; first | refine Owe.o ?_ | refine Owe.mk ?_ ?_) | (refine Fork.same ?_; (first | refine fkD ?_ ?_ | refine fkN ?_ ?_ | refine fkM ?_ ?_) <;> intro h) | refine MvQ.stay ?_)
      all_goals simp only [Int.toNat_natCast] at *
      all_goals first
        | refine again0 (k + 1) ⟨hlt, cont (by simp only [chP, nmI]; omega)⟩ (by omega) (by ((first | refine qen ?_ | refine qvs ?_ | refine qeq ?_ | refine qst ?_ | refine qv ?_ | refine qc ?_ | refine qe ?_ | refine qcs ?_ | skip); (repeat' first | exact rfl | (refine qS ?_; constructor))))
        | (refine rqK rfl ?_; (repeat' first | exact rfl | (refine qS ?_; constructor))); exact stop (by simp only [chP, nmI]; omega)
    · have : k = s.size := by omega
      subst this
      (repeat' first | (refine Owe.same ?_; first | refine Owe.o ?_ | refine Owe.mk ?_ ?_) | (refine Fork.same ?_; (first | refine fkD ?_ ?_ | refine fkN ?_ ?_ | refine fkM ?_ ?_) <;> intro h) | refine MvQ.stay ?_)
      (refine rqK rfl ?_; (repeat' first | exact rfl | (refine qS ?_; constructor)))
      exact decide_eq_true ⟨hk.2, hz⟩
  · have hf : decide (nmP s) = false := decide_eq_false fun h => hz h.2
    (repeat' first | (refine Owe.same ?_; first | refine Owe.o ?_ | refine Owe.mk ?_ ?_) | (refine Fork.same ?_; (first | refine fkY ?_ | refine fkF ?_ | ((first | refine fkD ?_ ?_ | refine fkN ?_ ?_ | refine fkM ?_ ?_) <;> intro h))) | ((first | refine OpsL.same ?_ | refine OpsDL.same ?_); first | refine oK C168 rfl rfl rfl ?_) | refine MvQ.stay ?_)
    all_goals first | ((refine rqK rfl ?_; (repeat' first | exact rfl | (refine qS ?_; constructor))); exact hf.symm) | ((refine rqK rfl ?_; (repeat' first | exact rfl | (refine qS ?_; constructor))); exact hf)
structure Tk where
  n : ByteArray
  p : Int
  d : Int
  w : Int
  o : Int
  v : Int
  lo : Int
  hi : Int
  a : List Int
abbrev intsD (l : List Int) : D := .sl 1 l.length fun i => r1 (l.getD i 0)
abbrev tkr (t : Tk) : List D := [.v (.string t.n), dI t.p, dI t.d, dI t.w, dI t.o, dI t.v, dI t.lo, dI t.hi, intsD t.a]
abbrev tk0 : Tk := ⟨ByteArray.empty, 0, 0, 0, 0, 0, 0, 0, []⟩
abbrev tkv (t : Tk) : V := .agg [str t.n, int t.p, int t.d, int t.w, int t.o, int t.v, int t.lo, int t.hi, ints t.a]
abbrev tks (l : List Tk) : C := slv 9 tkr tk0 l
abbrev tksD (l : List Tk) : D := .sl 9 l.length fun i => tkr (l.getD i tk0)
theorem C202 {t : Tk} {s : ByteArray} {r : List D} : PFD Tryz.prog 202 [tkv t, .c (.rp (.v (.string s) :: r))] (vbl (decide (t.n.data.toList = s.data.toList))) := by
  refine pi1 fn202 ?_
  (repeat' first | (refine Owe.same ?_; first | refine Owe.o ?_ | refine Owe.mk ?_ ?_) | (refine Fork.same ?_; (first | refine fkD ?_ ?_ | refine fkN ?_ ?_ | refine fkM ?_ ?_) <;> intro h) | refine MvQ.stay ?_)
  (refine rqK rfl ?_; (repeat' first | exact rfl | (refine qS ?_; constructor)))
theorem C258 {g : FuncId} {rows : List (List D)} {l : List Tk} {n : Nat} {f : Nat → Bool} (hg : ∀ i, i < n → PFD Tryz.prog g (tkv (l.getD i tk0) :: rows.map fun r => .c (.rp r)) (vbl (f i))) : n ≤ 1000000 → PFD Tryz.prog 258 [.c (.d (.sl 9 n fun i => tkr (l.getD i tk0))), .c (.fnR g rows)] (vi .i64 (idxN f 0 n)) := fun hl => by
  refine pi1 fn258 ?_
  (repeat' first | (refine Owe.same ?_; first | refine Owe.o ?_ | refine Owe.mk ?_ ?_) | (refine Fork.same ?_; (first | refine fkD ?_ ?_ | refine fkN ?_ ?_ | refine fkM ?_ ?_) <;> intro h) | refine MvQ.stay ?_)
  refine Sat.lp0 (fun k : Nat => [(8, vi .i64 k), (7, vi .i64 n), (6, .c (.d (.sl 9 n fun i => tkr (l.getD i tk0)))), (0, .c (.d (.sl 9 n fun i => tkr (l.getD i tk0)))), (1, .c (.fnR g rows))]) (fun k => k ≤ n ∧ ∀ i, i < k → f i = false) (fun k => n - k) 0 ⟨Nat.zero_le _, fun i hi => by omega⟩ (by ((first | refine qen ?_ | refine qvs ?_ | refine qeq ?_ | refine qst ?_ | refine qv ?_ | refine qc ?_ | refine qe ?_ | refine qcs ?_ | skip); (repeat' first | exact rfl | (refine qS ?_; constructor)))) ?_
  intro k hk
  refine Fork.dec (fun hlt => ?_) (fun hlt => ?_)
  · have hlt : k < n := by omega
    (repeat' first | (refine Owe.same ?_; first | refine Owe.o ?_ | refine Owe.mk ?_ ?_) | (refine Fork.same ?_; (first | refine fkD ?_ ?_ | refine fkN ?_ ?_ | refine fkM ?_ ?_) <;> intro h) | ((first | refine OpsL.same ?_ | refine OpsDL.same ?_); first | refine pR (hg k hlt) rfl rfl ?_) | refine MvQ.stay ?_)
    · (refine rqK rfl ?_; (repeat' first | exact rfl | (refine qS ?_; constructor))); rw [idxN_e hlt hk.2 h]
    · exact again0 (k + 1) ⟨hlt, succ_all hk.2 h⟩ (by omega) (by ((first | refine qen ?_ | refine qvs ?_ | refine qeq ?_ | refine qst ?_ | refine qv ?_ | refine qc ?_ | refine qe ?_ | refine qcs ?_ | skip); (repeat' first | exact rfl | (refine qS ?_; constructor))))
  · have : k = n := by omega
    subst this
    (repeat' first | (refine Owe.same ?_; first | refine Owe.o ?_ | refine Owe.mk ?_ ?_) | (refine Fork.same ?_; (first | refine fkD ?_ ?_ | refine fkN ?_ ?_ | refine fkM ?_ ?_) <;> intro h) | refine MvQ.stay ?_)
    (refine rqK rfl ?_; (repeat' first | exact rfl | (refine qS ?_; constructor))); rw [idxN_z hk.2]
theorem C201 {g : FuncId} {rows : List (List D)} {l : List Tk} {n : Nat} {f : Nat → Bool} (hg : ∀ i, i < n → PFD Tryz.prog g (tkv (l.getD i tk0) :: rows.map fun r => .c (.rp r)) (vbl (f i))) : n ≤ 1000000 → PFD Tryz.prog 201 [.c (.d (.sl 9 n fun i => tkr (l.getD i tk0))), .c (.fnR g rows)] (vbl (anyN f n)) := fun hl => by
  refine pi1 fn201 ?_
  (repeat' first | (refine Owe.same ?_; first | refine Owe.o ?_ | refine Owe.mk ?_ ?_) | (refine Fork.same ?_; (first | refine fkD ?_ ?_ | refine fkN ?_ ?_ | refine fkM ?_ ?_) <;> intro h) | ((first | refine OpsL.same ?_ | refine OpsDL.same ?_); first | refine pK (C258 hg hl) rfl rfl ?_) | refine MvQ.stay ?_)
  (refine rqK rfl ?_; (repeat' first | exact rfl | (refine qS ?_; constructor)))
  exact idxN_any
theorem C199 {g : FuncId} {rows : List (List D)} {l : List Tk} {f : Nat → Int} (hg : ∀ i, i < l.length → PFD Tryz.prog g (vi .i64 i :: tkv (l.getD i tk0) :: rows.map fun r => .c (.rp r)) (vi .i64 (f i))) : l.length ≤ 1000000 → PFD Tryz.prog 199 [.c (tks l), .c (.fnR g rows)] (.tup [vi .i64 (eachN f 0 l.length).1, vi .i64 (eachN f 0 l.length).2]) := fun hl => by
  refine pi2 fn199 ?_
  (repeat' first | (refine Owe.same ?_; first | refine Owe.o ?_ | refine Owe.mk ?_ ?_) | (refine Fork.same ?_; (first | refine fkD ?_ ?_ | refine fkN ?_ ?_ | refine fkM ?_ ?_) <;> intro h) | refine MvQ.stay ?_)
  refine Sat.lp0 (fun k : Nat => [(11, vi .i64 k), (10, vi .i64 l.length), (9, .c (tks l)), (1, .c (.fnR g rows))]) (fun k => k ≤ l.length ∧ ∀ i, i < k → f i = 0) (fun k => l.length - k) 0 ⟨Nat.zero_le _, fun i hi => by omega⟩ (by ((first | refine qen ?_ | refine qvs ?_ | refine qeq ?_ | refine qst ?_ | refine qv ?_ | refine qc ?_ | refine qe ?_ | refine qcs ?_ | skip); (repeat' first | exact rfl | (refine qS ?_; constructor)))) ?_
  intro k hk
  refine Fork.dec (fun hlt => ?_) (fun hlt => ?_)
  · have hlt : k < l.length := by omega
    (repeat' first | (refine Owe.same ?_; first | refine Owe.o ?_ | refine Owe.mk ?_ ?_) | (refine Fork.same ?_; (first | refine fkD ?_ ?_ | refine fkN ?_ ?_ | refine fkM ?_ ?_) <;> intro h) | ((first | refine OpsL.same ?_ | refine OpsDL.same ?_); first | refine pR (hg k hlt) rfl rfl ?_) | refine MvQ.stay ?_)
    · have e := eachN_e hlt hk.2 h
      (refine rqK rfl ?_; (repeat' first | exact rfl | (refine qS ?_; constructor))) <;> rw [e]
    · exact again0 (k + 1) ⟨hlt, succ_all hk.2 h⟩ (by omega) (by ((first | refine qen ?_ | refine qvs ?_ | refine qeq ?_ | refine qst ?_ | refine qv ?_ | refine qc ?_ | refine qe ?_ | refine qcs ?_ | skip); (repeat' first | exact rfl | (refine qS ?_; constructor))))
  · have : k = l.length := by omega
    subst this
    have e := eachN_z hk.2
    (repeat' first | (refine Owe.same ?_; first | refine Owe.o ?_ | refine Owe.mk ?_ ?_) | (refine Fork.same ?_; (first | refine fkD ?_ ?_ | refine fkN ?_ ?_ | refine fkM ?_ ?_) <;> intro h) | refine MvQ.stay ?_)
    (refine rqK rfl ?_; (repeat' first | exact rfl | (refine qS ?_; constructor))) <;> rw [e]
abbrev knB (l : List Tk) (k : Nat) (s : ByteArray) : Bool := anyN (fun i => decide ((l.getD i tk0).n.data.toList = s.data.toList)) k
abbrev tkF (l : List Tk) (k : Nat) (t : Tk) : Int := fstE [unl (nmP t.n) 4, unb (!knB l k t.n) 5, unb (decide (0 ≤ t.p ∧ t.p ≤ 4) && !oddI [t.d, t.w, t.o, t.v]) 2, tksE t.lo t.hi]
def tkE (l : List Tk) (k : Nat) : Int := if tkF l k (l.getD k tk0) = 0 then (ascE (l.getD k tk0).a k).2 else tkF l k (l.getD k tk0)
abbrev TkSm (l : List Tk) : Prop := ∀ i, i < l.length → (l.getD i tk0).n.size ≤ 1000000 ∧ (l.getD i tk0).a.length ≤ 1000000
theorem C200 {l : List Tk} {k : Nat} {r : List D} : (k < l.length ∧ l.length ≤ 1000000 ∧ TkSm l) → PFD Tryz.prog 200 [vi .i64 k, tkv (l.getD k tk0), .c (.rp (tksD l :: r))] (vi .i64 (tkE l k)) := fun ⟨hk, hl, hs⟩ => by
  obtain ⟨s1, s2⟩ := hs k hk
  obtain ⟨q, hq⟩ : ∃ q, q = tkE l k := ⟨_, rfl⟩
  have c1 := C201 (g := 202) (rows := [tkr (l.getD k tk0)]) (l := l) (n := k) (fun i hi => C202 (t := l.getD i tk0) (s := (l.getD k tk0).n)) (by omega)
  rw [← hq]
  rw [tkE] at hq
  obtain ⟨t, ht⟩ : ∃ t, t = l.getD k tk0 := ⟨_, rfl⟩
  rw [← ht] at s1 s2 hq c1 ⊢
  have c2 := C158o' (l := [t.d, t.w, t.o, t.v]) (by simp)
  have c3 := C206 (l := t.a) (b := k) ⟨s2, by omega⟩
  refine pi1 fn200 ?_
  (repeat' first | (refine Owe.same ?_; first | refine Owe.o ?_ | refine Owe.mk ?_ ?_) | (refine Fork.same ?_; (first | refine fkD ?_ ?_ | refine fkN ?_ ?_ | refine fkM ?_ ?_) <;> intro h) | ((first | refine OpsL.same ?_ | refine OpsDL.same ?_); first | refine pK c1 rfl rfl ?_ | refine pK c2 rfl rfl ?_ | refine pK (C204 s1) rfl rfl ?_ | refine pK C152 rfl rfl ?_ | refine pK C168 rfl rfl ?_ | refine pK C205 rfl rfl ?_ | refine pK C151 rfl rfl ?_ | refine pK c3 rfl rfl ?_) | refine MvQ.stay ?_)
  · rename_i hp
    have e : tkF l k t = fstE [unl (nmP t.n) 4, unb (!knB l k t.n) 5, unb (!oddI [t.d, t.w, t.o, t.v]) 2, tksE t.lo t.hi] := by rw [tkF, decide_eq_true hp, Bool.true_and]
    have h : ¬ fstE [unl (nmP t.n) 4, unb (!knB l k t.n) 5, unb (!oddI [t.d, t.w, t.o, t.v]) 2, tksE t.lo t.hi] = 0 := h
    rw [e, if_neg h] at hq
    (refine rqK rfl ?_; (repeat' first | exact rfl | (refine qS ?_; constructor))); exact hq.symm
  · rename_i hp
    have e : tkF l k t = fstE [unl (nmP t.n) 4, unb (!knB l k t.n) 5, unb (!oddI [t.d, t.w, t.o, t.v]) 2, tksE t.lo t.hi] := by rw [tkF, decide_eq_true hp, Bool.true_and]
    have h : fstE [unl (nmP t.n) 4, unb (!knB l k t.n) 5, unb (!oddI [t.d, t.w, t.o, t.v]) 2, tksE t.lo t.hi] = 0 := h
    rw [e, if_pos h] at hq
    (repeat' first | (refine Owe.same ?_; first | refine Owe.o ?_ | refine Owe.mk ?_ ?_) | (refine Fork.same ?_; (first | refine fkD ?_ ?_ | refine fkN ?_ ?_ | refine fkM ?_ ?_) <;> intro h) | refine MvQ.stay ?_)
    (refine rqK rfl ?_; (repeat' first | exact rfl | (refine qS ?_; constructor))); exact hq.symm
  · rename_i hp
    have e : tkF l k t = fstE [unl (nmP t.n) 4, unb (!knB l k t.n) 5, unb false 2, tksE t.lo t.hi] := by rw [tkF, decide_eq_false hp, Bool.false_and]
    have h : ¬ fstE [unl (nmP t.n) 4, unb (!knB l k t.n) 5, unb false 2, tksE t.lo t.hi] = 0 := h
    rw [e, if_neg h] at hq
    (refine rqK rfl ?_; (repeat' first | exact rfl | (refine qS ?_; constructor))); exact hq.symm
  · rename_i hp
    have e : tkF l k t = fstE [unl (nmP t.n) 4, unb (!knB l k t.n) 5, unb false 2, tksE t.lo t.hi] := by rw [tkF, decide_eq_false hp, Bool.false_and]
    have h : fstE [unl (nmP t.n) 4, unb (!knB l k t.n) 5, unb false 2, tksE t.lo t.hi] = 0 := h
    rw [e, if_pos h] at hq
    (repeat' first | (refine Owe.same ?_; first | refine Owe.o ?_ | refine Owe.mk ?_ ?_) | (refine Fork.same ?_; (first | refine fkD ?_ ?_ | refine fkN ?_ ?_ | refine fkM ?_ ?_) <;> intro h) | refine MvQ.stay ?_)
    (refine rqK rfl ?_; (repeat' first | exact rfl | (refine qS ?_; constructor))); exact hq.symm
def tsE (l : List Tk) : Int × Int := if 6 < (l.length : Int) then (0, 8) else eachN (tkE l) 0 l.length
theorem C113 {l : List Tk} : (l.length ≤ 1000000 ∧ TkSm l) → PFD Tryz.prog 113 [.c (tks l)] (.tup [vi .i64 (tsE l).1, vi .i64 (tsE l).2]) := fun ⟨hl, hs⟩ => by
  obtain ⟨q, hq⟩ : ∃ q, q = tsE l := ⟨_, rfl⟩
  rw [← hq]
  rw [tsE] at hq
  have c1 := C199 (g := 200) (rows := [[tksD l]]) (fun i hi => C200 (r := []) ⟨hi, hl, hs⟩) hl
  refine pi2 fn113 ?_
  (repeat' first | (refine Owe.same ?_; first | refine Owe.o ?_ | refine Owe.mk ?_ ?_) | (refine Fork.same ?_; (first | refine fkD ?_ ?_ | refine fkN ?_ ?_ | refine fkM ?_ ?_) <;> intro h) | ((first | refine OpsL.same ?_ | refine OpsDL.same ?_); first | refine pK c1 rfl rfl ?_) | refine MvQ.stay ?_)
  · rw [if_pos h] at hq; subst hq; (refine rqK rfl ?_; (repeat' first | exact rfl | (refine qS ?_; constructor)))
  · rw [if_neg h] at hq; subst hq; (refine rqK rfl ?_; (repeat' first | exact rfl | (refine qS ?_; constructor)))
end Go.Pw
set_option linter.unusedSimpArgs false
set_option linter.unusedVariables false
set_option maxHeartbeats 2000000
namespace Go.Pw
set_option maxRecDepth 2000
open Go Go.Proofs A1 A2 A3 A4
structure Si where
  tk : List Tk
  tr : List (List Int)
  ho : List Int
  ti : List (Int × Int × Int)
  idle : Int
  swim : Int
  res : Int
  fin : Int
structure St8 where
  p : Int
  t : Int
  w : Int
  o : Int
  d : List Int
abbrev rwsD (l : List (List Int)) : D := .sl 1 l.length fun i => [intsD (l.getD i [])]
abbrev trsD (l : List (Int × Int × Int)) : D := .sl 3 l.length fun i => r3 (l.getD i (0, 0, 0))
abbrev siD (s : Si) : List D := [tksD s.tk, rwsD s.tr, intsD s.ho, trsD s.ti, dI s.idle, dI s.swim, dI s.res, dI s.fin]
abbrev siC (s : Si) : List C := [.d (tksD s.tk), .d (rwsD s.tr), ints s.ho, trs s.ti, int s.idle, int s.swim, int s.res, int s.fin]
abbrev siv (s : Si) : V := .agg (siC s)
abbrev stD (s : St8) : List D := [dI s.p, dI s.t, dI s.w, dI s.o, intsD s.d]
abbrev stC8 (s : St8) : List C := [int s.p, int s.t, int s.w, int s.o, ints s.d]
abbrev stv (s : St8) : V := .agg (stC8 s)
abbrev hoE (s : Si) : Int := fstE [unl ((s.ho.length : Int) > 0) 10, unl ((s.ho.length : Int) ≤ 5) 8, unl ((s.tr.length : Int) = s.ho.length) 10]
abbrev hmB (s : Si) (i : Nat) : Bool := !oddI (s.tr.getD i []) && (decide (((s.tr.getD i []).length : Int) ≤ i) || decide ((s.tr.getD i []).getD i 0 = 0))
abbrev hmN (s : Si) (i : Nat) : Int := fstE [unl (isN (s.ho.getD i 0)) 2, unl (((s.tr.getD i []).length : Int) = s.ho.length) 10, unb (hmB s i) 2]
abbrev plN (s : Si) (i : Nat) : Int := unl ((s.tk.getD i tk0).p < s.ho.length) 6
abbrev lastT (s : Si) (k : Nat) : Int := if k = 0 then -1 else (s.ti.getD (k - 1) (0, 0, 0)).2.1
abbrev tiF (x : Int × Int × Int) (last : Int) : Int := fstE [unl ((isT x.1 ∧ isT x.2.1) ∧ isN x.2.2) 2, unl (x.1 ≤ x.2.1 ∧ last < x.1) 9]
abbrev tiN (s : Si) (i : Nat) : Int := tiF (s.ti.getD i (0, 0, 0)) (lastT s i)
abbrev enE (s : Si) : Int := unl (((isN s.idle ∧ isN s.swim) ∧ isN s.res) ∧ isT s.fin) 2
def siE (s : Si) : Int × Int :=
  if (tsE s.tk).2 = 0 then
    if hoE s = 0 then
      if (eachN (hmN s) 0 s.ho.length).2 = 0 then
        if (eachN (plN s) 0 s.tk.length).2 = 0 then
          if (s.ti.length : Int) > 6 then (0, 8) else
          if (eachN (tiN s) 0 s.ti.length).2 = 0 then (0, enE s) else eachN (tiN s) 0 s.ti.length
        else eachN (plN s) 0 s.tk.length
      else eachN (hmN s) 0 s.ho.length
    else (0, hoE s)
  else tsE s.tk
structure SiSm (s : Si) : Prop where
  tk : s.tk.length ≤ 1000000
  t : TkSm s.tk
  tr : s.tr.length ≤ 1000000
  r : ∀ i, i < s.tr.length → (s.tr.getD i []).length ≤ 1000000
  ho : s.ho.length ≤ 1000000
  ti : s.ti.length ≤ 1000000
theorem unb_of {b c : Bool} {e : Int} (h : b = c) : unb b e = unb c e := by rw [h]
theorem tiF_of {x : Int × Int × Int} {last : Int} {b1 b2 : Bool} (h1 : b1 = decide ((isT x.1 ∧ isT x.2.1) ∧ isN x.2.2)) (h2 : b2 = decide (x.1 ≤ x.2.1 ∧ last < x.1)) : fstE [unb b1 2, unb b2 9] = tiF x last := by subst h1; subst h2; rfl
theorem tiF_h {x : Int × Int × Int} {last : Int} {b1 b2 : Bool} {P : Int → Prop} (h : P (fstE [unb b1 2, unb b2 9])) (h1 : b1 = decide ((isT x.1 ∧ isT x.2.1) ∧ isN x.2.2)) (h2 : b2 = decide (x.1 ≤ x.2.1 ∧ last < x.1)) : P (tiF x last) := tiF_of h1 h2 ▸ h
theorem hmN_of {s : Si} {i : Nat} {b : Bool} (h1 : b = hmB s i) : fstE [unl (isN (s.ho.getD i 0)) 2, unl (((s.tr.getD i []).length : Int) = s.ho.length) 10, unb b 2] = hmN s i := by subst h1; rfl
theorem hmN_h {s : Si} {i : Nat} {b : Bool} {P : Int → Prop} (h : P (fstE [unl (isN (s.ho.getD i 0)) 2, unl (((s.tr.getD i []).length : Int) = s.ho.length) 10, unb b 2])) (h1 : b = hmB s i) : P (hmN s i) := hmN_of h1 ▸ h
theorem C171 {s : Si} : SiSm s → PFD Tryz.prog 171 [siv s] (.tup [vi .i64 (siE s).1, vi .i64 (siE s).2]) := fun hs => by
  obtain ⟨stk, st, str, sr, sho, sti⟩ := hs
  obtain ⟨q, hq⟩ : ∃ q, q = siE s := ⟨_, rfl⟩
  rw [← hq]
  rw [siE] at hq
  have c1 := C113 (l := s.tk) ⟨stk, st⟩
  refine pi2 fn171 ?_
  (repeat' first | (refine Owe.same ?_; first | refine Owe.o ?_ | refine Owe.mk ?_ ?_) | (refine Fork.same ?_; (first | refine fkD ?_ ?_ | refine fkN ?_ ?_ | refine fkM ?_ ?_) <;> intro h) | ((first | refine OpsL.same ?_ | refine OpsDL.same ?_); first | refine pK c1 rfl rfl ?_ | refine pK C152 rfl rfl ?_ | refine pK C151 rfl rfl ?_) | refine MvQ.stay ?_)
  · rw [if_neg h] at hq; subst hq; (refine rqK rfl ?_; (repeat' first | exact rfl | (refine qS ?_; constructor)))
  · rename_i h0
    have h : ¬ hoE s = 0 := h
    rw [if_pos h0, if_neg h] at hq; subst hq; (refine rqK rfl ?_; (repeat' first | exact rfl | (refine qS ?_; constructor)))
  · rename_i h0
    have h1 : hoE s = 0 := h
    rw [if_pos h0, if_pos h1] at hq
    have hb := fstE_ok.1 h1
    simp only [List.mem_cons, List.not_mem_nil, or_false, forall_eq_or_imp, forall_eq, unl, unb_ok (show (10 : Int) ≠ 0 by decide), unb_ok (show (8 : Int) ≠ 0 by decide), decide_eq_true_eq] at hb
    refine Ops.cs rfl rfl (CallS.of fn220 rfl ?_)
    (repeat' first | (refine Owe.same ?_; first | refine Owe.o ?_ | refine Owe.mk ?_ ?_) | (refine Fork.same ?_; (first | refine fkD ?_ ?_ | refine fkN ?_ ?_ | refine fkM ?_ ?_) <;> intro h) | refine MvQ.stay ?_)
    have hret : ∀ {k}, k < s.ho.length → (∀ i, i < k → hmN s i = 0) → ¬ hmN s k = 0 → q = ((k : Int), hmN s k) := fun hk h1 h2 => by
      have e := eachN_e hk h1 h2
      rw [if_neg (by rw [e]; exact h2), e] at hq; exact hq
    refine Sat.lp (fun k : Nat => ⟨[(11, vi .i64 k), (10, vi .i64 s.ho.length), (9, .c (ints s.ho)), (1, .c (.fn 229 [0, 1]))], [(1, .box [int s.ho.length]), (0, .box (siC s))], 13⟩) (fun k => k ≤ s.ho.length ∧ ∀ i, i < k → hmN s i = 0) (fun k => s.ho.length - k) 0 [] ⟨Nat.zero_le _, fun i hi => by omega⟩ ?_ ?_
    · (refine qis ?_ ?_ <;> (repeat' first | exact rfl | (refine qS ?_; constructor)))
    · intro k hk
      refine Fork.dec (fun hlt => ?_) (fun hlt => ?_)
      · have hlt : k < s.ho.length := by omega
        have c2 := C158o (l := s.tr.getD k []) (sr k (by omega))
        have hb1 : (!oddI (s.tr.getD k [])) = true → (((s.tr.getD k []).length : Int) ≤ k) → true = hmB s k := fun h1 h2 => by rw [hmB, h1, decide_eq_true h2]; rfl
        have hb2 : (!oddI (s.tr.getD k [])) = true → ¬ (((s.tr.getD k []).length : Int) ≤ k) → decide ((s.tr.getD k []).getD k 0 = 0) = hmB s k := fun h1 h2 => by rw [hmB, h1, decide_eq_false h2]; rfl
        have hb3 : (!oddI (s.tr.getD k [])) = false → false = hmB s k := fun h1 => by rw [hmB, h1]; rfl
        (repeat' first | (refine Owe.same ?_; first | refine Owe.o ?_ | refine Owe.mk ?_ ?_) | (refine Fork.same ?_; (first | refine fkD ?_ ?_ | refine fkN ?_ ?_ | refine fkM ?_ ?_) <;> intro h) | refine MvQ.stay ?_)
        refine Ops.cs rfl rfl (CallS.of fn229 rfl ?_)
        (repeat' first | (refine Owe.same ?_; first | refine Owe.o ?_ | refine Owe.mk ?_ ?_) | (refine Fork.same ?_; (first | refine fkD ?_ ?_ | refine fkN ?_ ?_ | refine fkM ?_ ?_) <;> intro h) | ((first | refine OpsL.same ?_ | refine OpsDL.same ?_); first | refine pK c2 rfl rfl ?_ | refine pK C154 rfl rfl ?_ | refine pK C152 rfl rfl ?_ | refine pK C151 rfl rfl ?_) | refine MvQ.stay ?_)
        all_goals first
          | contradiction
          | have h2 : hmN s k = 0 := hmN_h (P := fun x => x = 0) h (by first | exact hb1 ‹_› ‹_› | exact hb2 ‹_› ‹_› | exact hb3 ‹_›)
            refine again (k + 1) [] ⟨hlt, succ_all hk.2 h2⟩ (by omega) ?_
            (refine qis ?_ ?_ <;> (repeat' first | exact rfl | (refine qS ?_; constructor)))
          | have h2 : ¬ hmN s k = 0 ∧ _ = hmN s k := hmN_h (P := fun x => ¬ x = 0 ∧ _ = x) ⟨h, rfl⟩ (by first | exact hb1 ‹_› ‹_› | exact hb2 ‹_› ‹_› | exact hb3 ‹_›)
            have e := hret hlt hk.2 h2.1
            subst e
            (refine rqK rfl ?_; (repeat' first | exact rfl | (refine qS ?_; constructor)))
            exact h2.2
      · have : k = s.ho.length := by omega
        subst this
        rw [if_pos (eachN_ok.2 hk.2)] at hq
        (repeat' first | (refine Owe.same ?_; first | refine Owe.o ?_ | refine Owe.mk ?_ ?_) | (refine Fork.same ?_; (first | refine fkY ?_ | refine fkF ?_ | ((first | refine fkD ?_ ?_ | refine fkN ?_ ?_ | refine fkM ?_ ?_) <;> intro h))) | ((first | refine OpsL.same ?_ | refine OpsDL.same ?_); first | refine oK C152 rfl rfl rfl ?_) | refine MvQ.stay ?_)
        clear hret
        have hret : ∀ {k}, k < s.tk.length → (∀ i, i < k → plN s i = 0) → ¬ plN s k = 0 → q = ((k : Int), plN s k) := fun hk h1 h2 => by
          have e := eachN_e hk h1 h2
          rw [if_neg (by rw [e]; exact h2), e] at hq; exact hq
        clear hk hlt
        refine Ops.cs rfl rfl (CallS.of fn199 rfl ?_)
        (repeat' first | (refine Owe.same ?_; first | refine Owe.o ?_ | refine Owe.mk ?_ ?_) | (refine Fork.same ?_; (first | refine fkD ?_ ?_ | refine fkN ?_ ?_ | refine fkM ?_ ?_) <;> intro h) | refine MvQ.stay ?_)
        refine Sat.lp (fun k : Nat => ⟨[(11, vi .i64 k), (10, vi .i64 s.tk.length), (9, .c (tks s.tk)), (1, .c (.fn 231 [1]))], [(1, .box [int s.ho.length]), (0, .box (siC s))], 13⟩) (fun k => k ≤ s.tk.length ∧ ∀ i, i < k → plN s i = 0) (fun k => s.tk.length - k) 0 [] ⟨Nat.zero_le _, fun i hi => by omega⟩ ?_ ?_
        · (refine qis ?_ ?_ <;> (repeat' first | exact rfl | (refine qS ?_; constructor)))
        · intro k hk
          refine Fork.dec (fun hlt => ?_) (fun hlt => ?_)
          · have hlt : k < s.tk.length := by omega
            (repeat' first | (refine Owe.same ?_; first | refine Owe.o ?_ | refine Owe.mk ?_ ?_) | (refine Fork.same ?_; (first | refine fkD ?_ ?_ | refine fkN ?_ ?_ | refine fkM ?_ ?_) <;> intro h) | refine MvQ.stay ?_)
            refine Ops.cs rfl rfl (CallS.of fn231 rfl ?_)
            (repeat' first | (refine Owe.same ?_; first | refine Owe.o ?_ | refine Owe.mk ?_ ?_) | (refine Fork.same ?_; (first | refine fkD ?_ ?_ | refine fkN ?_ ?_ | refine fkM ?_ ?_) <;> intro h) | ((first | refine OpsL.same ?_ | refine OpsDL.same ?_); first | refine pK C152 rfl rfl ?_) | refine MvQ.stay ?_)
            all_goals first
              | contradiction
              | have h2 : plN s k = 0 := h
                refine again (k + 1) [] ⟨hlt, succ_all hk.2 h2⟩ (by omega) ?_
                (refine qis ?_ ?_ <;> (repeat' first | exact rfl | (refine qS ?_; constructor)))
              | have h2 : ¬ plN s k = 0 := h
                have e := hret hlt hk.2 h2
                subst e
                (refine rqK rfl ?_; (repeat' first | exact rfl | (refine qS ?_; constructor)))
          · have : k = s.tk.length := by omega
            subst this
            rw [if_pos (eachN_ok.2 hk.2)] at hq
            (repeat' first | (refine Owe.same ?_; first | refine Owe.o ?_ | refine Owe.mk ?_ ?_) | (refine Fork.same ?_; (first | refine fkY ?_ | refine fkF ?_ | ((first | refine fkD ?_ ?_ | refine fkN ?_ ?_ | refine fkM ?_ ?_) <;> intro h))) | ((first | refine OpsL.same ?_ | refine OpsDL.same ?_); first | refine oK C152 rfl rfl rfl ?_) | refine MvQ.stay ?_)
            · rw [if_pos h] at hq; subst hq; (refine rqK rfl ?_; (repeat' first | exact rfl | (refine qS ?_; constructor)))
            · rw [if_neg h] at hq
              clear hret
              have hret : ∀ {k}, k < s.ti.length → (∀ i, i < k → tiN s i = 0) → ¬ tiN s k = 0 → q = ((k : Int), tiN s k) := fun hk h1 h2 => by
                have e := eachN_e hk h1 h2
                rw [if_neg (by rw [e]; exact h2), e] at hq; exact hq
              clear hk hlt
              refine Ops.cs rfl rfl (CallS.of fn232 rfl ?_)
              (repeat' first | (refine Owe.same ?_; first | refine Owe.o ?_ | refine Owe.mk ?_ ?_) | (refine Fork.same ?_; (first | refine fkD ?_ ?_ | refine fkN ?_ ?_ | refine fkM ?_ ?_) <;> intro h) | refine MvQ.stay ?_)
              refine Sat.lp (fun k : Nat => ⟨[(11, vi .i64 k), (10, vi .i64 s.ti.length), (9, .c (trs s.ti)), (1, .c (.fn 233 [13]))], [(13, .box [int (lastT s k)]), (1, .box [int s.ho.length]), (0, .box (siC s))], 14⟩) (fun k => k ≤ s.ti.length ∧ ∀ i, i < k → tiN s i = 0) (fun k => s.ti.length - k) 0 [] ⟨Nat.zero_le _, fun i hi => by omega⟩ ?_ ?_
              · (refine qis ?_ ?_ <;> (repeat' first | exact rfl | (refine qS ?_; constructor)))
              · intro k hk
                refine Fork.dec (fun hlt => ?_) (fun hlt => ?_)
                · have hlt : k < s.ti.length := by omega
                  obtain ⟨last, hla⟩ : ∃ x, x = lastT s k := ⟨_, rfl⟩
                  rw [← hla]
                  have hret : ¬ tiF (s.ti.getD k (0, 0, 0)) last = 0 → q = ((k : Int), tiF (s.ti.getD k (0, 0, 0)) last) := fun h2 => by subst hla; exact hret hlt hk.2 h2
                  have hnx : tiF (s.ti.getD k (0, 0, 0)) last = 0 → ∀ i, i < k + 1 → tiN s i = 0 := fun h2 => by subst hla; exact succ_all hk.2 h2
                  clear hla
                  obtain ⟨x, hx⟩ : ∃ x, x = s.ti.getD k (0, 0, 0) := ⟨_, rfl⟩
                  (repeat' first | (refine Owe.same ?_; first | refine Owe.o ?_ | refine Owe.mk ?_ ?_) | (refine Fork.same ?_; (first | refine fkD ?_ ?_ | refine fkN ?_ ?_ | refine fkM ?_ ?_) <;> intro h) | refine MvQ.stay ?_)
                  refine Ops.cs rfl rfl (CallS.of fn233 rfl ?_)
                  (repeat' first | (refine Owe.same ?_; first | refine Owe.o ?_ | refine Owe.mk ?_ ?_) | (refine Fork.same ?_; (first | refine fkD ?_ ?_ | refine fkN ?_ ?_ | refine fkM ?_ ?_) <;> intro h) | ((first | refine OpsL.same ?_ | refine OpsDL.same ?_); first | refine pK C234 rfl rfl ?_ | refine pK C154 rfl rfl ?_ | refine pK C152 rfl rfl ?_ | refine pK C151 rfl rfl ?_) | refine MvQ.stay ?_)
                  all_goals first
                    | contradiction
                    | have h2 : tiF (s.ti.getD k (0, 0, 0)) last = 0 := tiF_h (P := fun x => x = 0) h (by rw [Bool.eq_iff_iff]; (try simp only [decide_eq_true_eq, Bool.false_eq_true, false_iff]); simp only [Int.toNat_natCast] at *; omega) (by rw [Bool.eq_iff_iff]; (try simp only [decide_eq_true_eq, Bool.false_eq_true, false_iff]); simp only [Int.toNat_natCast] at *; omega)
                      refine again (k + 1) [] ⟨hlt, hnx h2⟩ (by omega) ?_
                      (refine qis ?_ ?_ <;> (repeat' first | exact rfl | (refine qS ?_; constructor)))
                    | have h2 : ¬ tiF (s.ti.getD k (0, 0, 0)) last = 0 := tiF_h (P := fun x => ¬ x = 0) h (by rw [Bool.eq_iff_iff]; (try simp only [decide_eq_true_eq, Bool.false_eq_true, false_iff]); simp only [Int.toNat_natCast] at *; omega) (by rw [Bool.eq_iff_iff]; (try simp only [decide_eq_true_eq, Bool.false_eq_true, false_iff]); simp only [Int.toNat_natCast] at *; omega)
                      have e := hret h2
                      subst e
                      (refine rqK rfl ?_; (repeat' first | exact rfl | (refine qS ?_; constructor)))
                      exact tiF_of (by rw [Bool.eq_iff_iff]; (try simp only [decide_eq_true_eq, Bool.false_eq_true, false_iff]); simp only [Int.toNat_natCast] at *; omega) (by rw [Bool.eq_iff_iff]; (try simp only [decide_eq_true_eq, Bool.false_eq_true, false_iff]); simp only [Int.toNat_natCast] at *; omega)
                · have : k = s.ti.length := by omega
                  subst this
                  rw [if_pos (eachN_ok.2 hk.2)] at hq
                  (repeat' first | (refine Owe.same ?_; first | refine Owe.o ?_ | refine Owe.mk ?_ ?_) | (refine Fork.same ?_; (first | refine fkY ?_ | refine fkF ?_ | ((first | refine fkD ?_ ?_ | refine fkN ?_ ?_ | refine fkM ?_ ?_) <;> intro h))) | ((first | refine OpsL.same ?_ | refine OpsDL.same ?_); first | refine oK C234 rfl rfl rfl ?_ | refine oK C154 rfl rfl rfl ?_ | refine oK C152 rfl rfl rfl ?_) | refine MvQ.stay ?_)
                  all_goals subst hq
                  all_goals (refine rqK rfl ?_; (repeat' first | exact rfl | (refine qS ?_; constructor)))
                  all_goals exact unb_of (by rw [Bool.eq_iff_iff]; (try simp only [decide_eq_true_eq, Bool.false_eq_true, false_iff]); omega)
end Go.Pw
set_option linter.unusedVariables false
namespace Go.Pw
open Go Go.RowKit
theorem okD_listI {row : List Sh} {α : Type} {r : α → List D} {Q : α → Prop} (a0 : α) (hr : ∀ ds, OkDs row ds → ∃ a, DIs ds (r a) ∧ Q a) {d : D} (h : OkD (.sl row) d) :
    ∃ l : List α, DI d (.sl row.length l.length fun i => r (l.getD i a0)) ∧ l.length ≤ maxLen ∧ ∀ a ∈ l, Q a := by
  obtain ⟨n, f, rfl, hn, hf⟩ := okD_sl h
  have : ∀ i, ∃ a, i < n → DIs (f i) (r a) ∧ Q a := fun i => by
    by_cases hi : i < n
    · obtain ⟨a, ha⟩ := hr _ (hf i hi); exact ⟨a, fun _ => ha⟩
    · exact ⟨a0, fun h => absurd h hi⟩
  refine ⟨(List.range n).map fun i => Classical.choose (this i), ?_, by simpa using hn, fun a ha => ?_⟩
  · rw [show ((List.range n).map fun i => Classical.choose (this i)).length = n by simp]
    refine DI.sl fun i hi => ?_
    have h1 := (Classical.choose_spec (this i) hi).1
    rw [List.getD_eq_getElem?_getD]
    simpa [hi] using h1
  · obtain ⟨i, hi, rfl⟩ := List.mem_map.1 ha
    exact (Classical.choose_spec (this i) (by simpa using hi)).2
theorem intsI {d : D} (h : OkD (.sl [.int .i64]) d) : ∃ l : List Int, DI d (intsD l) ∧ l.length ≤ maxLen := by
  obtain ⟨l, h1, h2, _⟩ := okD_listI (r := r1) (Q := fun _ => True) (0 : Int) (fun ds hd => by
    obtain ⟨a, rfl, _⟩ := row1 hd
    exact ⟨a, DIs.refl _, trivial⟩) h
  exact ⟨l, h1, h2⟩
theorem intI {d : D} (h : OkD (.int .i64) d) : ∃ n : Int, DI d (dI n) := by
  obtain ⟨n, rfl, _⟩ := okD_int h
  exact ⟨n, DI.refl _⟩
abbrev tkSh : List Sh := [.str, .int .i64, .int .i64, .int .i64, .int .i64, .int .i64, .int .i64, .int .i64, .sl [.int .i64]]
theorem rowTk {ds : List D} (h : OkDs tkSh ds) : ∃ t : Tk, DIs ds (tkr t) ∧ t.n.size ≤ maxLen ∧ t.a.length ≤ maxLen := by
  obtain ⟨d1, e1, rfl, a1, k1⟩ := okDs_cons h
  obtain ⟨d2, e2, rfl, a2, k2⟩ := okDs_cons k1
  obtain ⟨d3, e3, rfl, a3, k3⟩ := okDs_cons k2
  obtain ⟨d4, e4, rfl, a4, k4⟩ := okDs_cons k3
  obtain ⟨d5, e5, rfl, a5, k5⟩ := okDs_cons k4
  obtain ⟨d6, e6, rfl, a6, k6⟩ := okDs_cons k5
  obtain ⟨d7, e7, rfl, a7, k7⟩ := okDs_cons k6
  obtain ⟨d8, e8, rfl, a8, k8⟩ := okDs_cons k7
  obtain ⟨d9, e9, rfl, a9, k9⟩ := okDs_cons k8
  rw [okDs_nil k9]
  obtain ⟨s, rfl, hs⟩ := okD_str a1
  obtain ⟨n2, b2⟩ := intI a2
  obtain ⟨n3, b3⟩ := intI a3
  obtain ⟨n4, b4⟩ := intI a4
  obtain ⟨n5, b5⟩ := intI a5
  obtain ⟨n6, b6⟩ := intI a6
  obtain ⟨n7, b7⟩ := intI a7
  obtain ⟨n8, b8⟩ := intI a8
  obtain ⟨l, b9, hl⟩ := intsI a9
  exact ⟨⟨s, n2, n3, n4, n5, n6, n7, n8, l⟩, .cons (DI.refl _) (.cons b2 (.cons b3 (.cons b4 (.cons b5 (.cons b6 (.cons b7 (.cons b8 (.cons b9 .nil)))))))), hs, hl⟩
abbrev siSh : List Sh := [.sl tkSh, .sl [.sl [.int .i64]], .sl [.int .i64], .sl [.int .i64, .int .i64, .int .i64], .int .i64, .int .i64, .int .i64, .int .i64]
structure SiMx (s : Si) : Prop where
  tk : s.tk.length ≤ maxLen
  t : ∀ i, i < s.tk.length → (s.tk.getD i tk0).n.size ≤ maxLen ∧ (s.tk.getD i tk0).a.length ≤ maxLen
  tr : s.tr.length ≤ maxLen
  r : ∀ i, i < s.tr.length → (s.tr.getD i []).length ≤ maxLen
  ho : s.ho.length ≤ maxLen
  ti : s.ti.length ≤ maxLen
theorem all_getD {α : Type} {l : List α} {d : α} {Q : α → Prop} (h : ∀ a ∈ l, Q a) : ∀ i, i < l.length → Q (l.getD i d) := fun i hi => h _ (by rw [List.getD_eq_getElem?_getD, List.getElem?_eq_getElem hi]; exact List.getElem_mem _)
theorem arg_site {v : V} (h : Arg true siSh v) : ∃ s : Si, RI v (siv s) ∧ SiMx s := by
  obtain ⟨ds, rfl, h1⟩ := arg_agg h
  obtain ⟨d1, e1, rfl, a1, k1⟩ := okDs_cons h1
  obtain ⟨d2, e2, rfl, a2, k2⟩ := okDs_cons k1
  obtain ⟨d3, e3, rfl, a3, k3⟩ := okDs_cons k2
  obtain ⟨d4, e4, rfl, a4, k4⟩ := okDs_cons k3
  obtain ⟨d5, e5, rfl, a5, k5⟩ := okDs_cons k4
  obtain ⟨d6, e6, rfl, a6, k6⟩ := okDs_cons k5
  obtain ⟨d7, e7, rfl, a7, k7⟩ := okDs_cons k6
  obtain ⟨d8, e8, rfl, a8, k8⟩ := okDs_cons k7
  rw [okDs_nil k8]
  obtain ⟨l1, b1, q1, p1⟩ := okD_listI tk0 (fun ds => rowTk) a1
  obtain ⟨l2, b2, q2, p2⟩ := okD_listI (r := fun l => [intsD l]) (Q := fun l => l.length ≤ maxLen) ([] : List Int) (fun ds hd => by
    obtain ⟨d, es, rfl, g1, g2⟩ := okDs_cons hd
    obtain ⟨l, g3, g4⟩ := intsI g1
    rw [okDs_nil g2]
    exact ⟨l, .cons g3 .nil, g4⟩) a2
  obtain ⟨l3, b3, q3⟩ := intsI a3
  obtain ⟨l4, b4, q4, _⟩ := okD_listI (r := r3) (Q := fun _ => True) ((0, 0, 0) : Int × Int × Int) (fun ds hd => by
    obtain ⟨a, rfl, _⟩ := row3 hd
    exact ⟨a, DIs.refl _, trivial⟩) a4
  obtain ⟨n5, b5⟩ := intI a5
  obtain ⟨n6, b6⟩ := intI a6
  obtain ⟨n7, b7⟩ := intI a7
  obtain ⟨n8, b8⟩ := intI a8
  exact ⟨⟨l1, l2, l3, l4, n5, n6, n7, n8⟩, RI.aggI (es := siD ⟨l1, l2, l3, l4, n5, n6, n7, n8⟩) (.cons b1 (.cons b2 (.cons b3 (.cons b4 (.cons b5 (.cons b6 (.cons b7 (.cons b8 .nil)))))))), q1, all_getD p1, q2, all_getD p2, q3, q4⟩
abbrev stSh : List Sh := [.int .i64, .int .i64, .int .i64, .int .i64, .sl [.int .i64]]
theorem arg_state {v : V} (h : Arg true stSh v) : ∃ t : St8, RI v (stv t) ∧ t.d.length ≤ maxLen := by
  obtain ⟨ds, rfl, h1⟩ := arg_agg h
  obtain ⟨d1, e1, rfl, a1, k1⟩ := okDs_cons h1
  obtain ⟨d2, e2, rfl, a2, k2⟩ := okDs_cons k1
  obtain ⟨d3, e3, rfl, a3, k3⟩ := okDs_cons k2
  obtain ⟨d4, e4, rfl, a4, k4⟩ := okDs_cons k3
  obtain ⟨d5, e5, rfl, a5, k5⟩ := okDs_cons k4
  rw [okDs_nil k5]
  obtain ⟨n1, b1⟩ := intI a1
  obtain ⟨n2, b2⟩ := intI a2
  obtain ⟨n3, b3⟩ := intI a3
  obtain ⟨n4, b4⟩ := intI a4
  obtain ⟨l, b5, q5⟩ := intsI a5
  exact ⟨⟨n1, n2, n3, n4, l⟩, RI.aggI (es := stD ⟨n1, n2, n3, n4, l⟩) (.cons b1 (.cons b2 (.cons b3 (.cons b4 (.cons b5 .nil))))), q5⟩
end Go.Pw
set_option linter.unusedSimpArgs false
set_option linter.unusedVariables false
set_option maxHeartbeats 2000000
namespace Go.Pw
set_option maxRecDepth 2000
open Go Go.Proofs A1 A2 A3 A4
abbrev stN (t : St8) : Int := unl ((isT t.t ∧ 0 ≤ t.w ∧ t.w ≤ 100000000) ∧ isN t.o) 2
abbrev stF (s : Si) (t : St8) : Int := fstE [(siE s).2, unl (0 ≤ t.p ∧ t.p ≤ (s.ho.length : Int) - 1) 6, stN t]
def stE (s : Si) (t : St8) : Int × Int := if stF s t = 0 then ascE t.d s.tk.length else (0, stF s t)
theorem stF_of {s : Si} {t : St8} {b : Bool} (h1 : b = decide ((isT t.t ∧ 0 ≤ t.w ∧ t.w ≤ 100000000) ∧ isN t.o)) : fstE [(siE s).2, unl (0 ≤ t.p ∧ t.p ≤ (s.ho.length : Int) - 1) 6, unb b 2] = stF s t := by subst h1; rfl
theorem stF_h {s : Si} {t : St8} {b : Bool} {P : Int → Prop} (h : P (fstE [(siE s).2, unl (0 ≤ t.p ∧ t.p ≤ (s.ho.length : Int) - 1) 6, unb b 2])) (h1 : b = decide ((isT t.t ∧ 0 ≤ t.w ∧ t.w ≤ 100000000) ∧ isN t.o)) : P (stF s t) := stF_of h1 ▸ h
theorem C219 {s : Si} {t : St8} : (SiSm s ∧ t.d.length ≤ 1000000) → PFD Tryz.prog 219 [siv s, stv t] (.tup [vi .i64 (stE s t).1, vi .i64 (stE s t).2]) := fun ⟨hs, ht⟩ => by
  have c1 := C171 hs
  have h9 := hs.tk
  have h8 := hs.ho
  have c2 := C259 (l := t.d) (b := s.tk.length) ⟨ht, by omega⟩
  obtain ⟨q, hq⟩ : ∃ q, q = stE s t := ⟨_, rfl⟩
  rw [← hq]
  rw [stE] at hq
  refine pi2 fn219 ?_
  (repeat' first | (refine Owe.same ?_; first | refine Owe.o ?_ | refine Owe.mk ?_ ?_) | (refine Fork.same ?_; (first | refine fkD ?_ ?_ | refine fkN ?_ ?_ | refine fkM ?_ ?_) <;> intro h) | ((first | refine OpsL.same ?_ | refine OpsDL.same ?_); first | refine pK c1 rfl rfl ?_ | refine pK c2 rfl rfl ?_ | refine pK C168 rfl rfl ?_ | refine pK C234 rfl rfl ?_ | refine pK C154 rfl rfl ?_ | refine pK C152 rfl rfl ?_ | refine pK C151 rfl rfl ?_) | refine MvQ.stay ?_)
  all_goals first
    | have h2 : stF s t = 0 := stF_h (P := fun x => x = 0) h (by rw [Bool.eq_iff_iff]; (try simp only [decide_eq_true_eq, Bool.false_eq_true, false_iff]); omega)
      rw [if_pos h2] at hq; subst hq
      (refine rqK rfl ?_; (repeat' first | exact rfl | (refine qS ?_; constructor)))
    | have h2 : ¬ stF s t = 0 := stF_h (P := fun x => ¬ x = 0) h (by rw [Bool.eq_iff_iff]; (try simp only [decide_eq_true_eq, Bool.false_eq_true, false_iff]); omega)
      rw [if_neg h2] at hq; subst hq
      (refine rqK rfl ?_; (repeat' first | exact rfl | (refine qS ?_; constructor)))
      exact stF_of (by rw [Bool.eq_iff_iff]; (try simp only [decide_eq_true_eq, Bool.false_eq_true, false_iff]); omega)
abbrev diD (s : Si) (t : St8) : List D := [tksD s.tk, rwsD s.tr, intsD s.ho, trsD s.ti, dI s.idle, dI s.swim, dI s.res, dI s.fin, dI t.p, dI t.t, dI t.w, dI t.o, intsD t.d]
abbrev diC (s : Si) (t : St8) : List C := [.d (tksD s.tk), .d (rwsD s.tr), ints s.ho, trs s.ti, int s.idle, int s.swim, int s.res, int s.fin, int t.p, int t.t, int t.w, int t.o, ints t.d]
abbrev div (s : Si) (t : St8) : V := .agg (diC s t)
def onE (s : Si) (t : St8) : Int := fstE [(siE s).2, (stE s t).2]
theorem C156 {s : Si} {t : St8} : (SiSm s ∧ t.d.length ≤ 1000000) → PFD Tryz.prog 156 [siv s, stv t] (.tup [div s t, vi .i64 (onE s t)]) := fun ⟨hs, ht⟩ => by
  have c1 := C171 hs
  have c2 := C219 ⟨hs, ht⟩
  refine pi2 fn156 ?_
  (repeat' first | (refine Owe.same ?_; first | refine Owe.o ?_ | refine Owe.mk ?_ ?_) | (refine Fork.same ?_; (first | refine fkD ?_ ?_ | refine fkN ?_ ?_ | refine fkM ?_ ?_) <;> intro h) | ((first | refine OpsL.same ?_ | refine OpsDL.same ?_); first | refine pK c1 rfl rfl ?_ | refine pK c2 rfl rfl ?_ | refine pK C151 rfl rfl ?_) | refine MvQ.stay ?_)
  (refine rqK rfl ?_; (repeat' first | exact rfl | (refine qS ?_; constructor)))
def swL (n a : Int) : List (Int × Int × Int) → Int
  | [] => n
  | x :: l => if x.1 ≤ a ∧ a ≤ x.2.1 then n + x.2.2 else swL n a l
theorem swL_drop (n a : Int) (l : List (Int × Int × Int)) (k : Nat) (h : k < l.length) : swL n a (l.drop k) = if (l.getD k (0, 0, 0)).1 ≤ a ∧ a ≤ (l.getD k (0, 0, 0)).2.1 then n + (l.getD k (0, 0, 0)).2.2 else swL n a (l.drop (k + 1)) := by
  rw [List.drop_eq_getElem_cons h, swL, List.getD_eq_getElem?_getD, List.getElem?_eq_getElem h]
  rfl
def swF (l : List (Int × Int × Int)) (n a : Int) : Int := if n = 0 then 0 else swL n a l
theorem C227 {s : Si} {t : St8} {n a : Int} : (s.ti.length ≤ 1000000 ∧ (∀ k, k < s.ti.length → isN (s.ti.getD k (0, 0, 0)).2.2) ∧ -1000000000 ≤ n ∧ n ≤ 1000000000) → PFD Tryz.prog 227 [div s t, vi .i64 n, vi .i64 a] (vi .i64 (swF s.ti n a)) := fun ⟨hl, hs, hn⟩ => by
  obtain ⟨q, hq⟩ : ∃ q, q = swF s.ti n a := ⟨_, rfl⟩
  rw [← hq]
  rw [swF] at hq
  refine pi1 fn227 ?_
  (repeat' first | (refine Owe.same ?_; first | refine Owe.o ?_ | refine Owe.mk ?_ ?_) | (refine Fork.same ?_; (first | refine fkD ?_ ?_ | refine fkN ?_ ?_ | refine fkM ?_ ?_) <;> intro h) | refine MvQ.stay ?_)
  · rw [if_pos h] at hq; subst hq; (refine rqK rfl ?_; (repeat' first | exact rfl | (refine qS ?_; constructor)))
  · rw [if_neg h] at hq
    refine Sat.lp0 (fun k : Nat => [(15, vi .i64 k), (14, vi .i64 s.ti.length), (13, .c (trs s.ti)), (1, vi .i64 n), (2, vi .i64 a)]) (fun k => k ≤ s.ti.length ∧ q = swL n a (s.ti.drop k)) (fun k => s.ti.length - k) 0 ⟨Nat.zero_le _, hq⟩ (by ((first | refine qen ?_ | refine qvs ?_ | refine qeq ?_ | refine qst ?_ | refine qv ?_ | refine qc ?_ | refine qe ?_ | refine qcs ?_ | skip); (repeat' first | exact rfl | (refine qS ?_; constructor)))) ?_
    intro k hk
    refine Fork.dec (fun hlt => ?_) (fun hlt => ?_)
    · have hlt : k < s.ti.length := by omega
      have h1 := hs k hlt
      have e := swL_drop n a s.ti k hlt
      rw [← hk.2] at e
      (repeat' first | (refine Owe.same ?_; first | refine Owe.o ?_ | refine Owe.mk ?_ ?_) | (refine Fork.same ?_; (first | refine fkD ?_ ?_ | refine fkN ?_ ?_ | refine fkM ?_ ?_) <;> intro h) | ((first | refine OpsL.same ?_ | refine OpsDL.same ?_); first | refine pK C168 rfl rfl ?_) | refine MvQ.stay ?_)
      · have h : (s.ti.getD k (0, 0, 0)).1 ≤ a ∧ a ≤ (s.ti.getD k (0, 0, 0)).2.1 := h
        rw [if_pos h] at e; subst e
        (refine rqK rfl ?_; (repeat' first | exact rfl | (refine qS ?_; constructor)))
      · have h : ¬ ((s.ti.getD k (0, 0, 0)).1 ≤ a ∧ a ≤ (s.ti.getD k (0, 0, 0)).2.1) := h
        rw [if_neg h] at e
        exact again0 (k + 1) ⟨hlt, e⟩ (by omega) (by ((first | refine qen ?_ | refine qvs ?_ | refine qeq ?_ | refine qst ?_ | refine qv ?_ | refine qc ?_ | refine qe ?_ | refine qcs ?_ | skip); (repeat' first | exact rfl | (refine qS ?_; constructor))))
    · have e := hk.2
      rw [List.drop_of_length_le (by omega)] at e
      (repeat' first | (refine Owe.same ?_; first | refine Owe.o ?_ | refine Owe.mk ?_ ?_) | (refine Fork.same ?_; (first | refine fkD ?_ ?_ | refine fkN ?_ ?_ | refine fkM ?_ ?_) <;> intro h) | refine MvQ.stay ?_)
      subst e
      (refine rqK rfl ?_; (repeat' first | exact rfl | (refine qS ?_; constructor)))
theorem fst2 {a b : Int} : fstE [a, b] = 0 ↔ a = 0 ∧ b = 0 := by rw [fstE_ok]; simp
theorem fst3 {a b c : Int} : fstE [a, b, c] = 0 ↔ a = 0 ∧ b = 0 ∧ c = 0 := by rw [fstE_ok]; simp
theorem fst4 {a b c d : Int} : fstE [a, b, c, d] = 0 ↔ a = 0 ∧ b = 0 ∧ c = 0 ∧ d = 0 := by rw [fstE_ok]; simp
theorem unl0 {p : Prop} [Decidable p] {e : Int} (he : e ≠ 0) : unb (decide p) e = 0 ↔ p := by rw [unb_ok he, decide_eq_true_eq]
structure TkOk (s : Si) (i : Nat) : Prop where
  n : nmP (s.tk.getD i tk0).n
  k : knB s.tk i (s.tk.getD i tk0).n = false
  p : 0 ≤ (s.tk.getD i tk0).p ∧ (s.tk.getD i tk0).p ≤ 4
  q : (s.tk.getD i tk0).p < s.ho.length
  d : isN (s.tk.getD i tk0).d
  w : isN (s.tk.getD i tk0).w
  o : isN (s.tk.getD i tk0).o
  v : isN (s.tk.getD i tk0).v
  lo : isT (s.tk.getD i tk0).lo
  hi : isT (s.tk.getD i tk0).hi
  r : (s.tk.getD i tk0).lo ≤ (s.tk.getD i tk0).hi
  a : (ascE (s.tk.getD i tk0).a i).2 = 0
structure SiOk (s : Si) : Prop where
  n : s.tk.length ≤ 6
  t : ∀ i, i < s.tk.length → TkOk s i
  h : (1 ≤ s.ho.length ∧ s.ho.length ≤ 5) ∧ s.tr.length = s.ho.length
  r : ∀ i, i < s.ho.length → (isN (s.ho.getD i 0) ∧ (s.tr.getD i []).length = s.ho.length) ∧ (∀ j, isN ((s.tr.getD i []).getD j 0)) ∧ (s.tr.getD i []).getD i 0 = 0
  m : s.ti.length ≤ 6
  u : ∀ i, i < s.ti.length → ((isT (s.ti.getD i (0, 0, 0)).1 ∧ isT (s.ti.getD i (0, 0, 0)).2.1) ∧ isN (s.ti.getD i (0, 0, 0)).2.2) ∧ (s.ti.getD i (0, 0, 0)).1 ≤ (s.ti.getD i (0, 0, 0)).2.1 ∧ lastT s i < (s.ti.getD i (0, 0, 0)).1
  e : ((isN s.idle ∧ isN s.swim) ∧ isN s.res) ∧ isT s.fin
theorem oddI_f {l : List Int} (h : oddI l = false) : ∀ j, isN (l.getD j 0) := fun j => by
  by_cases hj : j < l.length
  · have := List.any_eq_false.1 h _ (getD_mem 0 hj)
    simpa using this
  · rw [List.getD_eq_getElem?_getD, List.getElem?_eq_none (by omega)]; decide
theorem SiOk.of {s : Si} (h : (siE s).2 = 0) : SiOk s := by
  rw [siE] at h
  by_cases h1 : (tsE s.tk).2 = 0
  · rw [if_pos h1] at h
    by_cases h2 : hoE s = 0
    · rw [if_pos h2] at h
      by_cases h3 : (eachN (hmN s) 0 s.ho.length).2 = 0
      · rw [if_pos h3] at h
        by_cases h4 : (eachN (plN s) 0 s.tk.length).2 = 0
        · rw [if_pos h4] at h
          by_cases h5 : (s.ti.length : Int) > 6
          · rw [if_pos h5] at h; cases h
          · rw [if_neg h5] at h
            by_cases h6 : (eachN (tiN s) 0 s.ti.length).2 = 0
            · rw [if_pos h6] at h
              have h7 := (unl0 (show (2 : Int) ≠ 0 by decide)).1 h
              have h6 := eachN_ok.1 h6
              have h4 := eachN_ok.1 h4
              have h3 := eachN_ok.1 h3
              rw [hoE, fst3, unl0 (by decide), unl0 (by decide), unl0 (by decide)] at h2
              have h8 : s.tk.length ≤ 6 := by
                rw [tsE] at h1
                split at h1
                · cases h1
                · omega
              have h9 : ∀ i, i < s.tk.length → tkE s.tk i = 0 := by
                rw [tsE, if_neg (by omega)] at h1
                exact eachN_ok.1 h1
              refine ⟨h8, fun i hi => ?_, by omega, fun i hi => ?_, by omega, fun i hi => ?_, h7⟩
              · have a1 := h9 i hi
                have a2 := (unl0 (by decide)).1 (h4 i hi)
                rw [tkE] at a1
                split at a1
                · rename_i a3
                  rw [tkF, fst4, tksE, fst2, unl0 (by decide), unb_ok (by decide), unb_ok (by decide), unl0 (by decide), unl0 (by decide), Bool.and_eq_true, decide_eq_true_eq] at a3
                  obtain ⟨b1, b2, b3, b4, b5⟩ := a3
                  have b6 := oddI_f ((Bool.not_eq_true' _).mp b3.2)
                  exact ⟨b1, by simpa using b2, b3.1, a2, b6 0, b6 1, b6 2, b6 3, b4.1, b4.2, b5, a1⟩
                · rename_i a3; exact absurd a1 a3
              · have a1 := h3 i hi
                rw [hmN, fst3, unl0 (by decide), unl0 (by decide), unb_ok (by decide), hmB, Bool.and_eq_true, Bool.or_eq_true, decide_eq_true_eq, decide_eq_true_eq] at a1
                refine ⟨⟨a1.1, by omega⟩, oddI_f ((Bool.not_eq_true' _).mp a1.2.2.1), ?_⟩
                rcases a1.2.2.2 with a2 | a2
                · omega
                · exact a2
              · have a1 := h6 i hi
                rw [tiN, tiF, fst2, unl0 (by decide), unl0 (by decide)] at a1
                exact a1
            · rw [if_neg h6] at h; exact absurd h h6
        · rw [if_neg h4] at h; exact absurd h h4
      · rw [if_neg h3] at h; exact absurd h h3
    · rw [if_neg h2] at h; exact absurd h h2
  · rw [if_neg h1] at h; exact absurd h h1
structure DvB (s : Si) (t : St8) : Prop where
  ok : SiOk s
  pl : 0 ≤ t.p ∧ t.p < s.ho.length
  tm : -1000000 ≤ t.t ∧ t.t ≤ 1000000
  en : -1000000000000 ≤ t.w ∧ t.w ≤ 1000000000000
theorem swF_bd {l : List (Int × Int × Int)} {n a : Int} (hs : ∀ k, k < l.length → isN (l.getD k (0, 0, 0)).2.2) (hn : isN n) : n ≤ swF l n a ∧ swF l n a ≤ n + 10000 := by
  have : ∀ m k, l.length - k = m → n ≤ swL n a (l.drop k) ∧ swL n a (l.drop k) ≤ n + 10000 := fun m => by
    induction m with
    | zero => intro k hk; rw [List.drop_of_length_le (by omega), swL]; omega
    | succ m ih =>
      intro k hk
      rw [swL_drop n a l k (by omega)]
      have := hs k (by omega)
      split
      · omega
      · exact ih (k + 1) (by omega)
  rw [swF]
  split
  · omega
  · exact this _ 0 rfl
abbrev hmT (s : Si) (t : St8) : Int := swF s.ti (s.ho.getD t.p.toNat 0) t.t
theorem hmT_bd {s : Si} {t : St8} (h : DvB s t) : 0 ≤ hmT s t ∧ hmT s t ≤ 20000 := by
  have h1 := (h.ok.r t.p.toNat (by have := h.pl; omega)).1.1
  have := swF_bd (a := t.t) (fun k hk => (h.ok.u k hk).1.2) h1
  simp only [hmT]
  omega
theorem C167 {s : Si} {t : St8} : DvB s t → PFD Tryz.prog 167 [div s t] (.agg [int (hmT s t), int (hmT s t * s.swim)]) := fun h => by
  have hb := hmT_bd h
  have h1 := h.pl
  have h2 := h.ok.m
  have h3 := (h.ok.r t.p.toNat (by omega)).1.1
  have h4 := h.ok.e
  have c1 := C227 (s := s) (t := t) (n := s.ho.getD t.p.toNat 0) (a := t.t) ⟨by omega, fun k hk => (h.ok.u k hk).1.2, by omega⟩
  obtain ⟨n, hn⟩ : ∃ n, n = hmT s t := ⟨_, rfl⟩
  rw [← hn] at hb ⊢
  change PFD Tryz.prog 227 _ (vi .i64 (hmT s t)) at c1
  rw [← hn] at c1
  have hm := mbd (a := n) (A := 20000) (by omega) (b := s.swim) (B := 10000) (by omega)
  refine pi1 fn167 ?_
  (repeat' first | (refine Owe.same ?_; first | refine Owe.o ?_ | refine Owe.mk ?_ ?_) | (refine Fork.same ?_; (first | refine fkD ?_ ?_ | refine fkN ?_ ?_ | refine fkM ?_ ?_) <;> intro h) | ((first | refine OpsL.same ?_ | refine OpsDL.same ?_); first | refine pK c1 rfl rfl ?_) | refine MvQ.stay ?_)
  (refine rqK rfl ?_; (repeat' first | exact rfl | (refine qS ?_; constructor)))
def reB (s : Si) (t : St8) : Bool := decide (s.res ≤ t.w - hmT s t * s.swim ∧ t.t + hmT s t ≤ s.fin)
theorem C165 {s : Si} {t : St8} : DvB s t → PFD Tryz.prog 165 [div s t] (vbl (reB s t)) := fun h => by
  have hb := hmT_bd h
  have h1 := h.tm
  have h2 := h.en
  have h4 := h.ok.e
  have hm := mbd (a := hmT s t) (A := 20000) (by omega) (b := s.swim) (B := 10000) (by omega)
  have c1 := C167 h
  refine pi1 fn165 ?_
  (repeat' first | (refine Owe.same ?_; first | refine Owe.o ?_ | refine Owe.mk ?_ ?_) | (refine Fork.same ?_; (first | refine fkD ?_ ?_ | refine fkN ?_ ?_ | refine fkM ?_ ?_) <;> intro h) | ((first | refine OpsL.same ?_ | refine OpsDL.same ?_); first | refine pK c1 rfl rfl ?_) | refine MvQ.stay ?_)
  · (refine rqK rfl ?_; (repeat' first | exact rfl | (refine qS ?_; constructor)))
    rw [reB]; exact decide_eq_decide.2 ⟨fun hh => ⟨h, hh⟩, fun hh => hh.2⟩
  · (refine rqK rfl ?_; (repeat' first | exact rfl | (refine qS ?_; constructor)))
    have hf : reB s t = false := decide_eq_false fun hh => h hh.1
    exact hf
structure OnOk (s : Si) (t : St8) : Prop where
  ok : SiOk s
  pl : 0 ≤ t.p ∧ t.p < s.ho.length
  tm : isT t.t
  en : 0 ≤ t.w ∧ t.w ≤ 100000000
  oil : isN t.o
  d : (ascE t.d s.tk.length).2 = 0
theorem OnOk.of {s : Si} {t : St8} (h : onE s t = 0) : OnOk s t := by
  rw [onE, fst2, stE] at h
  obtain ⟨h1, h2⟩ := h
  split at h2
  · rename_i h3
    rw [stF, fst3, unl0 (by decide), unl0 (by decide)] at h3
    exact ⟨SiOk.of h1, by omega, by omega, by omega, by omega, h2⟩
  · rename_i h3; exact absurd h2 h3
theorem OnOk.b {s : Si} {t : St8} (h : OnOk s t) : DvB s t := ⟨h.ok, h.pl, by have := h.tm; omega, by have := h.en; omega⟩
abbrev wtS (s : Si) (t : St8) (u : Int) : St8 := ⟨t.p, u, t.w - (u - t.t) * s.idle, t.o, t.d⟩
theorem wtS_b {s : Si} {t : St8} {u : Int} (h : OnOk s t) (hu : -1000000 ≤ u ∧ u ≤ 1000000) : DvB s (wtS s t u) := by
  have h1 := h.tm
  have h2 := h.en
  have h3 := h.ok.e
  have hm := mbd (a := u - t.t) (A := 2000000) (by omega) (b := s.idle) (B := 10000) (by omega)
  exact ⟨h.ok, h.pl, hu, by simp only [wtS]; omega⟩
theorem C166 {s : Si} {t : St8} {u : Int} : (OnOk s t ∧ -1000000 ≤ u ∧ u ≤ 1000000) → PFD Tryz.prog 166 [div s t, vi .i64 u] (div s (wtS s t u)) := fun ⟨h, hu⟩ => by
  have h1 := h.tm
  have h2 := h.en
  have h3 := h.ok.e
  have hm := mbd (a := u - t.t) (A := 2000000) (by omega) (b := s.idle) (B := 10000) (by omega)
  refine pi1 fn166 ?_
  (repeat' first | (refine Owe.same ?_; first | refine Owe.o ?_ | refine Owe.mk ?_ ?_) | (refine Fork.same ?_; (first | refine fkD ?_ ?_ | refine fkN ?_ ?_ | refine fkM ?_ ?_) <;> intro h) | refine MvQ.stay ?_)
  (refine rqK rfl ?_; (repeat' first | exact rfl | (refine qS ?_; constructor)))
def lrD (s : Si) (t : St8) : Nat → Int × Int
  | 0 => (0, 12)
  | n + 1 => if reB s (wtS s t (t.t + n)) = true then (t.t + n, 0) else lrD s t n
def lrE (s : Si) (t : St8) : Int × Int := if onE s t = 0 then lrD s t (s.fin - t.t + 1).toNat else (0, onE s t)
theorem C76 {s : Si} {t : St8} : (SiSm s ∧ t.d.length ≤ 1000000) → PFD Tryz.prog 76 [siv s, stv t] (.tup [vi .i64 (lrE s t).1, vi .i64 (lrE s t).2]) := fun hs => by
  have c1 := C156 hs
  obtain ⟨q, hq⟩ : ∃ q, q = lrE s t := ⟨_, rfl⟩
  rw [← hq]
  rw [lrE] at hq
  refine pi2 fn76 ?_
  (repeat' first | (refine Owe.same ?_; first | refine Owe.o ?_ | refine Owe.mk ?_ ?_) | (refine Fork.same ?_; (first | refine fkD ?_ ?_ | refine fkN ?_ ?_ | refine fkM ?_ ?_) <;> intro h) | ((first | refine OpsL.same ?_ | refine OpsDL.same ?_); first | refine pK c1 rfl rfl ?_) | refine MvQ.stay ?_)
  · rw [if_neg h] at hq; subst hq; (refine rqK rfl ?_; (repeat' first | exact rfl | (refine qS ?_; constructor)))
  · rw [if_pos h] at hq
    have hO := OnOk.of h
    have h1 := hO.tm
    have h2 := hO.ok.e
    refine Sat.lp (fun u : Int => ⟨[(8, vi .i64 u), (6, .c (.bp 0 0))], [(0, .box (diC s t))], 1⟩) (fun u => (u ≤ s.fin ∧ -1 ≤ u) ∧ q = lrD s t (u - t.t + 1).toNat) (fun u => (u - t.t + 1).toNat) s.fin [0] ⟨by omega, hq⟩ ?_ ?_
    · (refine qis ?_ ?_ <;> (repeat' first | exact rfl | (refine qS ?_; constructor)))
    · intro u hu
      refine Fork.dec (fun hlt => ?_) (fun hlt => ?_)
      · have hlt : t.t ≤ u := hlt
        have c2 := C166 (u := u) ⟨hO, by omega⟩
        have c3 := C165 (wtS_b (u := u) hO (by omega))
        obtain ⟨n, hn⟩ : ∃ n : Nat, u = t.t + n := ⟨(u - t.t).toNat, by omega⟩
        have e := hu.2
        rw [show (u - t.t + 1).toNat = n + 1 by omega, lrD, ← hn] at e
        (repeat' first | (refine Owe.same ?_; first | refine Owe.o ?_ | refine Owe.mk ?_ ?_) | (refine Fork.same ?_; (first | refine fkD ?_ ?_ | refine fkN ?_ ?_ | refine fkM ?_ ?_) <;> intro h) | ((first | refine OpsL.same ?_ | refine OpsDL.same ?_); first | refine pK c2 rfl rfl ?_ | refine pK c3 rfl rfl ?_) | refine MvQ.stay ?_)
        · have h : reB s (wtS s t u) = true := decide_eq_true h
          rw [if_pos h] at e; subst e
          (refine rqK rfl ?_; (repeat' first | exact rfl | (refine qS ?_; constructor)))
        · have h : ¬ reB s (wtS s t u) = true := fun hh => h (of_decide_eq_true hh)
          rw [if_neg h] at e
          refine again (u - 1) [0] ⟨by omega, ?_⟩ (by omega) ?_
          · rw [show (u - 1 - t.t + 1).toNat = n by omega]; exact e
          · (refine qis ?_ ?_ <;> (repeat' first | exact rfl | (refine qS ?_; constructor)))
      · have e := hu.2
        have hlt : ¬ t.t ≤ u := hlt
        rw [show (u - t.t + 1).toNat = 0 by omega, lrD] at e
        subst e
        (repeat' first | (refine Owe.same ?_; first | refine Owe.o ?_ | refine Owe.mk ?_ ?_) | (refine Fork.same ?_; (first | refine fkD ?_ ?_ | refine fkN ?_ ?_ | refine fkM ?_ ?_) <;> intro h) | refine MvQ.stay ?_)
        (refine rqK rfl ?_; (repeat' first | exact rfl | (refine qS ?_; constructor)))
abbrev pr0 (b : Bool) (x y : Int) : V := .agg [int (if b then x else 0), int (if b then y else 0)]
end Go.Pw
set_option linter.unusedSimpArgs false
set_option linter.unusedVariables false
set_option maxHeartbeats 2000000
namespace Go.Pw
open Go Go.RowKit Go.Proofs
def insL_ren : Go.Shelf.Ren := ⟨fun | 21 => 267 | 27 => 293 | 28 => 294 | 35 => 305 | 39 => 313 | n => n, fun | 22 => 49 | 3 => 3 | 4 => 4 | 0 => 0 | n => n, fun | n => n⟩
theorem insL : Lays2.n21 Tryz.prog insL_ren := {
  mixed := by kernel_rfl
  f21 := Tryz.func267.trans (congrArg some (by kernel_rfl))
  f27 := Tryz.func293.trans (congrArg some (by kernel_rfl))
  f28 := Tryz.func294.trans (congrArg some (by kernel_rfl))
  f35 := Tryz.func305.trans (congrArg some (by kernel_rfl))
  f39 := Tryz.func313.trans (congrArg some (by kernel_rfl))
  t0 := Tryz.underlying0
  a0 := Tryz.isAgg0
  z0 := Tryz.sizeOf0
  v0 := Tryz.zeroValue0
  t3 := Tryz.underlying3
  a3 := Tryz.isAgg3
  z3 := Tryz.sizeOf3
  v3 := Tryz.zeroValue3
  t4 := Tryz.underlying4
  a4 := Tryz.isAgg4
  z4 := Tryz.sizeOf4
  v4 := Tryz.zeroValue4
  t22 := Tryz.underlying49
  a22 := Tryz.isAgg49
  z22 := Tryz.sizeOf49
  v22 := Tryz.zeroValue49
  i3 := by kernel_rfl }
theorem tape_setCells (b : Nat) : ∀ (vs : List Value) (o : Nat) (w : World), (w.setCells b o vs).tape = w.tape
  | [], _, _ => rfl
  | v :: r, o, w => by rw [World.setCells, tape_setCells b r]; rfl
theorem os_setCells (b : Nat) : ∀ (vs : List Value) (o : Nat) (w : World), (w.setCells b o vs).os = w.os
  | [], _, _ => rfl
  | v :: r, o, w => by rw [World.setCells, os_setCells b r]; rfl
theorem output_setCells (b : Nat) : ∀ (vs : List Value) (o : Nat) (w : World), (w.setCells b o vs).output = w.output
  | [], _, _ => rfl
  | v :: r, o, w => by rw [World.setCells, output_setCells b r]; rfl
theorem size_setCells (b : Nat) : ∀ (vs : List Value) (o : Nat) (w : World), (w.setCells b o vs).heap.size = w.heap.size
  | [], _, _ => rfl
  | v :: r, o, w => by rw [World.setCells, size_setCells b r]; simp [World.setCell]
theorem heapo_setCells (b : Nat) {k : Nat} (hk : k ≠ b) : ∀ (vs : List Value) (o : Nat) (w : World), (w.setCells b o vs).heap[k]? = w.heap[k]?
  | [], _, _ => rfl
  | v :: r, o, w => by
    rw [World.setCells, heapo_setCells b hk r]; simp [World.setCell, Array.getElem?_modify, Ne.symm hk]
theorem alloc_size (w : World) (o : Obj) : (w.alloc o).heap.size = w.heap.size + 1 := by
  show (w.heap.push o).size = _
  simp
theorem get_here {i : Nat} {e : Ent} {σ : Store} : get ((i, e) :: σ) i = some e := by
  have : Nat.beq i i = true := Nat.beq_refl i
  simp only [get, this]
theorem get_next {i j : Nat} {e : Ent} {σ : Store} (h : i ≠ j) : get ((i, e) :: σ) j = get σ j := by
  have : Nat.beq i j = false := by rw [Bool.eq_false_iff]; exact fun h' => h (Nat.eq_of_beq_eq_true h')
  simp only [get, this]
theorem shut_post {Γ : Cx} {w w' : World} {σ : Store} {B cap nx : Nat} {ys : List Int} (hst : StoreOk Γ w σ) (hB : Live Γ σ B ∨ w.heap.size ≤ B) (hB' : B < w'.heap.size) (hle : ys.length ≤ cap)
    (hc : ∀ j, j < ys.length → w'.cell? ⟨B, j, none⟩ = some (.int .i64 (ys.getD j 0))) (hos : w'.os = w.os) (ht : w'.tape = w.tape) (ho : w'.output = w.output) (hsz : w.heap.size ≤ w'.heap.size)
    (hk : ∀ k, k < w.heap.size → k ≠ B → w'.heap[k]? = w.heap[k]?) :
    ∃ u Γ', Ending.returned (.slice (some ⟨B, 0, none⟩) ys.length cap) = Ending.returned u ∧ RepV Γ' w' (.c (ints ys)) u ∧ StoreOk Γ' w' [] ∧ CxLe Γ Γ' ∧ (∀ id, ¬ (nx ≤ id ∧ id < nx) → Γ'.ρ id = Γ.ρ id ∧ Γ'.κ id = Γ.κ id) ∧ Ext 0 Γ w σ Γ' w' [] := by
  have nol : ∀ {Γ' : Cx} {i : Nat}, ¬ LiveId Γ' [] i := fun h => by
    rcases h with ⟨_, h⟩ | ⟨_, _, _, _, h, _⟩ | ⟨_, _, _, _, h⟩ | ⟨_, _, h⟩ <;> cases h
  refine ⟨_, ⟨fun k => Γ.I k ∨ k = B, Γ.ρ, Γ.κ⟩, rfl, .c _ _ (.sl 1 _ _ ⟨B, 0, none⟩ cap (fun i _ => .int .i64 (ys.getD i 0)) hle (.inr rfl) (fun i _ => rfl) (fun i j d hi hd => ?_) (fun i j d hi hd => ?_)), ⟨fun k h => ?_, fun id e h => (by cases h), fun i j k h => absurd h nol, hst.lay.mono (fun _ h => .inl h) (fun k hI => hk k (hst.im k hI) (fun e => by
    subst e
    rcases hB with h | h
    · exact hst.not_live hI h
    · have := hst.im _ hI; omega))⟩, ⟨fun k h => .inl h, fun _ _ h => h, fun _ _ _ => rfl⟩, fun _ _ => ⟨rfl, rfl⟩, ⟨hos, ht, ho, hsz, fun k h => .inl h, fun k h => ?_, fun _ _ => rfl, fun _ _ => rfl, fun k h1 h2 => hk k h1 fun e => ?_, fun k ⟨i, h, _⟩ => absurd h nol⟩⟩
  · have hj : j = 0 := by
      have := (List.getElem?_eq_some_iff.1 hd).1
      simp at this; exact this
    subst hj
    rw [Addr.add_lit, Nat.zero_add, Nat.mul_one, Nat.add_zero]; exact hc i hi
  · have hj : j = 0 := by
      have := (List.getElem?_eq_some_iff.1 hd).1
      simp at this; exact this
    subst hj
    simp only [r1, List.getElem?_cons_zero, Option.some.injEq] at hd
    subst hd
    exact .v _ rfl
  · rcases h with h | rfl
    · exact Nat.lt_of_lt_of_le (hst.im k h) hsz
    · exact hB'
  · rcases h with h | rfl
    · exact .inl h
    · exact .inr hB.symm
  · subst e
    rcases hB with h | h
    · exact h2 h
    · omega
theorem one_row {x : Int} {g : Nat → List D} (hg : g 0 = r1 x) : ∀ i, i < [x].length → g i = r1 ([x].getD i 0) := fun i hi => by
  have hi : i < 1 := hi
  obtain rfl : i = 0 := by omega
  exact hg
theorem row_lies {Γ : Cx} {w : World} {σ : Store} {a : Nat} {l : List Int} {f : Nat → List D} {u : Value} (hf : ∀ i, i < l.length → f i = r1 (l.getD i 0)) (hst : StoreOk Γ w σ) (hg : get σ a = some (.row 3 1 l.length f false)) (h0 : 0 < l.length) (hu : RepV Γ w (.c (.ms a l.length)) u) :
    ∃ b c xs, Γ.ρ a = some b ∧ u = .slice (some ⟨b, 0, none⟩) l.length c ∧ LiveId Γ σ a ∧ l.length ≤ c ∧ c ≤ maxLen ∧ w.heap[b]? = some (.cells xs 3 (0, 0)) ∧ xs.size = c ∧ ∀ j, j < l.length → xs[j]? = some (.int .i64 (l.getD j 0)) := by
  cases hu with | c _ u hu =>
  obtain ⟨b, hb, ⟨h1, _⟩ | ⟨c, hc, rfl⟩⟩ := hu
  · omega
  · obtain ⟨b', hb', hok⟩ := hst.ok a _ hg
    rw [hb] at hb'; cases hb'
    rcases hok with ⟨h1, _⟩ | ⟨c', hk, _, hI, hn, hm, _, xs, hh, hx, hcell⟩
    · rw [hc] at h1; cases h1
    · rw [hc] at hk; cases hk
      refine ⟨b, c, xs, hb, rfl, .inr (.inl ⟨_, _, _, _, hg, c, hc⟩), hn, hm, hh, by simpa using hx, fun j hj => ?_⟩
      obtain ⟨x, h3, h4⟩ := hcell j 0 (dI (l.getD j 0)) hj (by rw [hf j hj]; rfl)
      rw [Nat.mul_one, Nat.add_zero] at h3
      rw [h3]
      cases h4; rfl
theorem cell_row {w : World} {b : Nat} {xs : Array Value} {t : TypeId} {fr : Nat × Nat} (h : w.heap[b]? = some (.cells xs t fr)) (j : Nat) : w.cell? ⟨b, j, none⟩ = xs[j]? := by
  have := cell_at (off := 0) h j
  rwa [Addr.add_lit, Nat.zero_add] at this
theorem frozen_row {w : World} {b : Nat} {xs : Array Value} {t : TypeId} (h : w.heap[b]? = some (.cells xs t (0, 0))) (j : Nat) : w.frozen? ⟨b, j, none⟩ = false := by
  simp [World.frozen?, h]
theorem shape_row {w : World} {b : Nat} {xs : Array Value} {t : TypeId} (h : w.heap[b]? = some (.cells xs t (0, 0))) : w.shape? b = some (t, xs.size) := by
  simp [World.shape?, h]
abbrev insI (l : List Int) (i : Nat) (x : Int) : List Int := l.take i ++ x :: l.drop i
theorem insI_len {l : List Int} {i : Nat} {x : Int} (hi : i ≤ l.length) : (insI l i x).length = l.length + 1 := by simp [insI]; omega
theorem insI_get {l : List Int} {i : Nat} {x : Int} (hi : i ≤ l.length) (j : Nat) : (insI l i x).getD j 0 = if j < i then l.getD j 0 else if j = i then x else l.getD (j - 1) 0 := by
  simp only [insI, List.getD_eq_getElem?_getD]
  rcases Nat.lt_trichotomy j i with h | h | h
  · rw [if_pos h, List.getElem?_append_left (by simp; omega), List.getElem?_take, if_pos h]
  · subst h
    rw [if_neg (Nat.lt_irrefl _), if_pos rfl, List.getElem?_append_right (by simp; omega), List.length_take, Nat.min_eq_left hi, Nat.sub_self]; rfl
  · rw [if_neg (by omega), if_neg (by omega), List.getElem?_append_right (by simp; omega), List.length_take, Nat.min_eq_left hi, show j - i = (j - i - 1) + 1 by omega, List.getElem?_cons_succ, List.getElem?_drop]
    congr 2; omega
abbrev vsI (l : List Int) : List Value := l.map (.int .i64)
theorem vsI_get {l : List Int} {j : Nat} {v : Value} (h : (vsI l)[j]? = some v) : j < l.length ∧ v = .int .i64 (l.getD j 0) := by
  rw [List.getElem?_map] at h
  have hj : j < l.length := by
    rcases Nat.lt_or_ge j l.length with h1 | h1
    · exact h1
    · rw [List.getElem?_eq_none h1] at h; cases h
  refine ⟨hj, ?_⟩
  rw [List.getElem?_eq_getElem hj] at h
  rw [List.getD_eq_getElem?_getD, List.getElem?_eq_getElem hj]
  simpa using h.symm
theorem sc_get {b o : Nat} {vs : List Value} {w : World} (hs : ∀ j, j < vs.length → (w.cell? ⟨b, o + j, none⟩).isSome = true) (k : Nat) : (w.setCells b o vs).cell? ⟨b, k, none⟩ = if o ≤ k ∧ k < o + vs.length then vs[k - o]? else w.cell? ⟨b, k, none⟩ := by
  split
  · rename_i h
    have := World.cell?_setCells_in b vs o w hs (k - o) (by omega)
    rw [show o + (k - o) = k by omega] at this
    rw [this, List.getElem?_eq_getElem]
  · rename_i h
    exact World.cell?_setCells_out b vs o w _ fun _ _ => by show k < o ∨ o + vs.length ≤ k; omega
theorem vsI_at {l : List Int} {j : Nat} (hj : j < l.length) : (vsI l)[j]? = some (.int .i64 (l.getD j 0)) := by
  rw [List.getElem?_map, List.getElem?_eq_getElem hj, List.getD_eq_getElem?_getD, List.getElem?_eq_getElem hj]; rfl
theorem vsI_one {l : List Int} : ∀ v ∈ vsI l, v.oneCell' = true := fun v hv => by
  obtain ⟨n, _, rfl⟩ := List.mem_map.1 hv; rfl
theorem C267 {l : List Int} {i : Nat} {x : Int} {a b nx : Nat} {f g : Nat → List D} (hf : ∀ i, i < l.length → f i = r1 (l.getD i 0)) (hg : g 0 = r1 x) (hab : a ≠ b) (hi : i ≤ l.length) (h0 : 0 < l.length) (hl : l.length ≤ 1000000) :
    CallD Tryz.prog 267 [.c (.ms a l.length), vi .i64 i, .c (.ms b 1)] [(a, .row 3 1 l.length f false), (b, .row 3 1 1 g false)] nx (.c (ints (insI l i x))) [] nx := by
  obtain ⟨hent, _⟩ := fn267
  refine ⟨hent, Nat.le_refl _, fun Γ w us hst _ hr => ?_⟩
  obtain ⟨us⟩ := us
  obtain ⟨u0, u1, u2, rfl⟩ : ∃ u0 u1 u2, us = [u0, u1, u2] := by
    have := hr.1
    match us, this with
    | [u0, u1, u2], _ => exact ⟨_, _, _, rfl⟩
  have q0 := hr.2 0 _ u0 rfl rfl
  have q1 := (hr.2 1 _ u1 rfl rfl).int
  have q2 := hr.2 2 _ u2 rfl rfl
  subst q1
  obtain ⟨ba, c, xs, hρa, rfl, hla, hn, hcm, hh, hx, hcell⟩ := row_lies hf hst get_here h0 q0
  obtain ⟨bb, c2, xs2, hρb, rfl, hlb, hn2, hcm2, hh2, hx2, hcell2⟩ := row_lies (l := [x]) (one_row hg) hst (by rw [get_next hab]; exact get_here) (by simp) q2
  have hne : bb ≠ ba := fun e => hab (hst.inj a b ba hla hlb hρa (e ▸ hρb))
  have hlive : Live Γ [(a, .row 3 1 l.length f false), (b, .row 3 1 1 g false)] ba := ⟨a, hla, hρa⟩
  have hlt : ba < w.heap.size := (Array.getElem?_eq_some_iff.1 hh).1
  have hcs : ∀ j v, (vsI l)[j]? = some v → w.cell? ⟨ba, 0 + j, none⟩ = some v := fun j v hj => by
    obtain ⟨h1, rfl⟩ := vsI_get hj
    rw [Nat.zero_add, cell_row hh, hcell j h1]
  have hvs : ∀ j v, (vsI [x])[j]? = some v → w.cell? ⟨bb, 0 + j, none⟩ = some v := fun j v hj => by
    obtain ⟨h1, rfl⟩ := vsI_get hj
    rw [Nat.zero_add, cell_row hh2, hcell2 j h1]
  have hsome : ∀ j, j < c → (w.cell? ⟨ba, j, none⟩).isSome = true := fun j hj => by
    rw [cell_row hh, Array.getElem?_eq_getElem (by omega)]; rfl
  have hcl : (vsI l).length = l.length := by simp
  have hdl : ((vsI l).drop i).length = l.length - i := by rw [List.length_drop, hcl]
  have hcm' : c ≤ 9223372036854775807 := by unfold maxLen at hcm; omega
  have hil := insI_len (x := x) hi
  have hfin : ∀ {j : Nat} {z : Option Value}, (j < i → z = some (.int .i64 (l.getD j 0))) → ∀ (k : Nat), k < l.length + 1 → k = j → (if 0 + i ≤ j ∧ j < 0 + i + (vsI [x]).length then (vsI [x])[j - (0 + i)]? else if 0 + (i + 1) ≤ j ∧ j < 0 + (i + 1) + ((vsI l).drop i).length then ((vsI l).drop i)[j - (0 + (i + 1))]? else z) = some (.int .i64 (if j < i then l.getD j 0 else if j = i then x else l.getD (j - 1) 0)) := fun {j z} hz k hk e => by
    subst e
    rcases Nat.lt_trichotomy k i with h | h | h
    · rw [if_neg (by omega), if_neg (by omega), if_pos h, hz h]
    · rw [if_pos ⟨by omega, by show k < 0 + i + 1; omega⟩, if_neg (by omega), if_pos h, show k - (0 + i) = 0 by omega]; rfl
    · rw [if_neg (by rintro ⟨_, h2⟩; have h2 : k < 0 + i + 1 := h2; omega), if_pos ⟨by omega, by rw [hdl]; omega⟩, if_neg (by omega), if_neg (by omega), List.getElem?_drop, vsI_at (by omega), show i + (k - (0 + (i + 1))) = k - 1 by omega]
  rcases Nat.lt_or_ge i l.length with hin | hin
  · rcases Nat.lt_or_ge c (l.length + 1) with hroom | hroom
    · have h := Any2.slices_Insert_int_grow insL ba 0 l.length c i bb 0 1 c2 (vsI l) (vsI [x]) w hin (by decide) hn hroom (by omega) hcl rfl hcs hvs vsI_one vsI_one
      refine h.mono fun e w' ⟨he, hw⟩ => ?_
      obtain ⟨A, hA⟩ : ∃ A, A = (((vsI l).take i).toArray ++ Builtin.zeroCells (Value.int .i64 0).cells (l.length + 1 - i) ++ Builtin.zeroCells (Value.int .i64 0).cells (grownCap w (l.length + 1) c (insL_ren.t 3) - (l.length + 1))) := ⟨_, rfl⟩
      rw [← hA] at hw
      have hz1 : (Value.int .i64 0).cells.size = 1 := rfl
      have hAs : l.length + 1 ≤ A.size := by
        rw [hA, Array.size_append, Array.size_append, zeroCells_size, zeroCells_size, hz1, List.size_toArray, List.length_take, hcl]; omega
      have hAt : ∀ j, j < i → A[j]? = some (.int .i64 (l.getD j 0)) := fun j hj => by
        rw [hA, Array.append_assoc, Array.getElem?_append_left (by rw [List.size_toArray, List.length_take, hcl]; omega), List.getElem?_toArray, List.getElem?_take, if_pos hj, vsI_at (by omega)]
      obtain ⟨W, hW⟩ : ∃ W, W = (w.alloc (.cells A (insL_ren.t 3))).drew := ⟨_, rfl⟩
      rw [← hW] at hw
      have hWc : ∀ j, W.cell? ⟨w.heap.size, j, none⟩ = A[j]? := fun j => by rw [hW]; exact World.cell?_alloc_new w A (insL_ren.t 3) j
      have hWs : ∀ j, j < l.length + 1 → (W.cell? ⟨w.heap.size, j, none⟩).isSome = true := fun j hj => by rw [hWc, Array.getElem?_eq_getElem (by omega)]; rfl
      have hWz : W.heap.size = w.heap.size + 1 := by rw [hW]; exact alloc_size w _
      have hs1 : ∀ j, j < (vsI [x]).length → (W.cell? ⟨w.heap.size, i + j, none⟩).isSome = true := fun j hj => hWs _ (by have : j < 1 := hj; omega)
      have hs2 : ∀ j, j < ((vsI l).drop i).length → ((W.setCells w.heap.size i (vsI [x])).drew.cell? ⟨w.heap.size, i + 1 + j, none⟩).isSome = true := fun j hj => isSome_setCells w.heap.size _ _ _ hs1 _ (hWs _ (by omega))
      have := shut_post (w' := w') (nx := nx) (ys := insI l i x) (B := w.heap.size) (cap := grownCap w (l.length + 1) c (insL_ren.t 3)) hst (.inr (Nat.le_refl _)) (by rw [hw, size_setCells]; show _ < (W.setCells _ _ _).heap.size; rw [size_setCells, hWz]; omega) (by rw [hil]; exact grownCap_ge w _ _ _) (fun j hj => ?_) (by rw [hw, os_setCells]; show (W.setCells _ _ _).os = _; rw [os_setCells, hW]; rfl) (by rw [hw, tape_setCells]; show (W.setCells _ _ _).tape = _; rw [tape_setCells, hW]; rfl) (by rw [hw, output_setCells]; show (W.setCells _ _ _).output = _; rw [output_setCells, hW]; rfl) (by rw [hw, size_setCells]; show _ ≤ (W.setCells _ _ _).heap.size; rw [size_setCells, hWz]; omega) (fun k hk hkb => by rw [hw, heapo_setCells _ hkb]; show (W.setCells _ _ _).heap[k]? = _; rw [heapo_setCells _ hkb, hW]; exact heap_alloc (w := w) hk)
      · rw [hil] at this
        rw [he]; exact this
      · rw [hw, sc_get hs2, insI_get hi]
        rcases Nat.lt_trichotomy j i with h | h | h
        · rw [if_neg (by omega), if_pos h]
          show (W.setCells w.heap.size i (vsI [x])).cell? _ = _
          rw [sc_get hs1, if_neg (by omega), hWc, hAt j h]
        · rw [if_neg (by omega), if_neg (by omega), if_pos h]
          show (W.setCells w.heap.size i (vsI [x])).cell? _ = _
          rw [sc_get hs1, if_pos ⟨by omega, by show j < i + 1; omega⟩, show j - i = 0 by omega]; rfl
        · rw [if_pos ⟨by omega, by rw [hdl]; omega⟩, if_neg (by omega), if_neg (by omega), List.getElem?_drop, vsI_at (by omega), show i + (j - (i + 1)) = j - 1 by omega]
    · have h := Any2.slices_Insert_int_shift insL ba 0 l.length c i bb 0 1 c2 (vsI l) (vsI [x]) w hin (by decide) hroom hcm' hne hcl rfl hcs (fun j hj => by rw [Nat.zero_add]; exact hsome j (by omega)) (fun j _ => frozen_row hh _) hvs vsI_one vsI_one 3 3 xs2.size xs.size (shape_row hh2) (shape_row hh) (by omega) (frozen_row hh2 _) (frozen_row hh2 _)
      refine h.mono fun e w' ⟨he, hw⟩ => ?_
      have hs1 : ∀ j, j < ((vsI l).drop i).length → (w.drew.cell? ⟨ba, 0 + (i + 1) + j, none⟩).isSome = true := fun j hj => hsome _ (by omega)
      have hs2 : ∀ j, j < (vsI [x]).length → ((w.drew.setCells ba (0 + (i + 1)) ((vsI l).drop i)).cell? ⟨ba, 0 + i + j, none⟩).isSome = true := fun j hj => by
        refine isSome_setCells ba _ _ _ hs1 _ (hsome _ ?_)
        have : j < 1 := hj
        omega
      have := shut_post (w' := w') (nx := nx) (ys := insI l i x) (B := ba) (cap := c) hst (.inl hlive) (by rw [hw, size_setCells, size_setCells]; exact hlt) (by omega) (fun j hj => ?_) (by rw [hw, os_setCells, os_setCells]; rfl) (by rw [hw, tape_setCells, tape_setCells]; rfl) (by rw [hw, output_setCells, output_setCells]; rfl) (by rw [hw, size_setCells, size_setCells]; exact Nat.le_refl _) (fun k hk hkb => by rw [hw, heapo_setCells ba hkb, heapo_setCells ba hkb]; rfl)
      · rw [hil] at this
        rw [he]; exact this
      · rw [hw, sc_get hs2, sc_get hs1, insI_get hi]
        exact hfin (fun h => by show w.cell? _ = _; rw [cell_row hh, hcell j (by omega)]) j (by omega) rfl
  · obtain rfl : i = l.length := by omega
    rcases Nat.lt_or_ge c (l.length + 1) with hroom | hroom
    · have h := Any2.slices_Insert_int_end_grow insL (some ⟨ba, 0, none⟩) l.length c bb 0 1 c2 (vsI l) (vsI [x]) w (by decide) hn hroom (by omega) hcl rfl (fun h => by cases h) (fun a h j v hj => by cases h; rw [Addr.add_lit]; exact hcs j v hj) hvs vsI_one
      refine h.mono fun e w' ⟨he, hw⟩ => ?_
      have := shut_post (w' := w') (nx := nx) (ys := insI l l.length x) (B := w.heap.size) (cap := grownCap w (l.length + 1) c (insL_ren.t 3)) hst (.inr (Nat.le_refl _)) (by rw [hw, alloc_size]; exact Nat.lt_succ_self _) (by rw [hil]; exact grownCap_ge w _ _ _) (fun j hj => ?_) (by rw [hw]; rfl) (by rw [hw]; rfl) (by rw [hw]; rfl) (by rw [hw, alloc_size]; exact Nat.le_succ _) (fun k hk hkb => by rw [hw]; exact heap_alloc (w := w.drew) hk)
      · rw [hil] at this
        rw [he]; exact this
      · rw [hw, insI_get hi]
        refine (World.cell?_alloc_new w.drew _ _ j).trans ?_
        rw [Array.getElem?_append_left (by rw [List.size_toArray, List.length_append, hcl]; show j < l.length + 1; omega), List.getElem?_toArray]
        rcases Nat.lt_or_ge j l.length with h3 | h3
        · rw [List.getElem?_append_left (by rw [hcl]; exact h3), if_pos h3, vsI_at h3]
        · rw [List.getElem?_append_right (by rw [hcl]; exact h3), if_neg (by omega), if_pos (by omega), hcl, show j - l.length = 0 by omega]; rfl
    · have h := Any2.slices_Insert_int_end_room insL ba 0 l.length c bb 0 1 c2 (vsI [x]) w (by decide) hroom hcm' rfl (fun j hj => by rw [Nat.zero_add]; exact hsome _ (by omega)) (fun j _ => frozen_row hh _) hvs vsI_one
      refine h.mono fun e w' ⟨he, hw⟩ => ?_
      have hs1 : ∀ j, j < (vsI [x]).length → (w.cell? ⟨ba, 0 + l.length + j, none⟩).isSome = true := fun j hj => hsome _ (by have : j < 1 := hj; omega)
      have := shut_post (w' := w') (nx := nx) (ys := insI l l.length x) (B := ba) (cap := c) hst (.inl hlive) (by rw [hw, size_setCells]; exact hlt) (by omega) (fun j hj => ?_) (by rw [hw, os_setCells]) (by rw [hw, tape_setCells]) (by rw [hw, output_setCells]) (by rw [hw, size_setCells]; exact Nat.le_refl _) (fun k hk hkb => by rw [hw, heapo_setCells ba hkb])
      · rw [hil] at this
        rw [he]; exact this
      · rw [hw, sc_get hs1, insI_get hi]
        split
        · rename_i h1
          have h2 : j < 0 + l.length + 1 := h1.2
          rw [if_neg (by omega), if_pos (by omega), show j - (0 + l.length) = 0 by omega]; rfl
        · rename_i h1
          have h2 : j < l.length := by
            rcases Nat.lt_or_ge j l.length with h3 | h3
            · exact h3
            · exact absurd ⟨by omega, by show j < 0 + l.length + 1; omega⟩ h1
          rw [if_pos h2, cell_row hh, hcell j h2]
def kloL_ren : Go.Shelf.Ren := ⟨fun | 15 => 164 | n => n, fun | 22 => 49 | 3 => 3 | 4 => 4 | n => n, fun | n => n⟩
theorem kloL : Lays2.n15 Tryz.prog kloL_ren := {
  mixed := by kernel_rfl
  f15 := Tryz.func164.trans (congrArg some (by kernel_rfl))
  t3 := Tryz.underlying3
  a3 := Tryz.isAgg3
  z3 := Tryz.sizeOf3
  v3 := Tryz.zeroValue3
  t4 := Tryz.underlying4
  a4 := Tryz.isAgg4
  z4 := Tryz.sizeOf4
  v4 := Tryz.zeroValue4
  t22 := Tryz.underlying49
  a22 := Tryz.isAgg49
  z22 := Tryz.sizeOf49
  v22 := Tryz.zeroValue49
  i3 := by kernel_rfl }
theorem own_post {Γ : Cx} {w w' : World} {nx : Nat} {v : Value} {l : List Int} (hst : StoreOk Γ w []) (hid : Γ.ρ nx = none) (hown : w'.ownsRow w.heap.size 3 1 v l.length (vsI l)) (hnil : v ≠ .slice none 0 0) (hB : Below w.heap.size w w') :
    ∃ Γ', RepV Γ' w' (.c (.ms nx l.length)) v ∧ StoreOk Γ' w' [(nx, rowv 3 1 r1 0 l)] ∧ CxLe Γ Γ' ∧ (∀ id, ¬ (nx ≤ id ∧ id < nx + 1) → Γ'.ρ id = Γ.ρ id ∧ Γ'.κ id = Γ.κ id) ∧ Ext 0 Γ w [] Γ' w' [(nx, rowv 3 1 r1 0 l)] := by
  obtain ⟨_, ⟨h, _⟩ | ⟨g, cap, cur, rfl, hg, hh, hn, hc, hs, ht⟩⟩ := hown
  · exact absurd h hnil
  · have hnI : ¬ Γ.I g := fun hI => by have := hst.im _ hI; omega
    have hnL : ¬ Live Γ [] g := fun hl => by have := hst.live_lt hl; omega
    have he : EntOk (Γ.upd nx g (some cap)) w' nx g (rowv 3 1 r1 0 l) :=
      .inr ⟨cap, upd_κ_same, (fun hf => by cases hf), fun _ => hnI, hn, hc, fun _ _ => rfl, cur, hh, hs, fun i j d hi hd => by
        have hj : j = 0 := by
          have := (List.getElem?_eq_some_iff.1 hd).1
          simp at this; exact this
        subst hj
        simp only [r1, List.getElem?_cons_zero, Option.some.injEq] at hd
        subst hd
        refine ⟨.int .i64 (l.getD i 0), ?_, .v _ rfl⟩
        have h1 := vsI_at hi
        rw [← ht, List.getElem?_take, Nat.mul_one, if_pos hi] at h1
        rw [Nat.mul_one, Nat.add_zero]
        simpa using h1⟩
    refine ⟨Γ.upd nx g (some cap), .c _ _ ⟨_, upd_ρ_same, .inr ⟨_, upd_κ_same, rfl⟩⟩, hst.fresh hid hB.size (fun k hk _ => hB.block k hk) (fun _ => hnL) (.inr ⟨hnI, hnL⟩) he, CxLe.upd _ _ _ hid, fun id h => ⟨upd_ρ (by omega), upd_κ (by omega)⟩,
      Ext.grow (Γ := Γ) (w := w) (w' := w') (fun i hi => upd_ρ (by omega)) (fun i hi => upd_κ (by omega)) (fun _ h => h) (fun _ h => .inl h) hB.os hB.tape hB.output hB.size (fun k hk _ => hB.block k hk) _ (fun k hk => ?_)⟩
    rcases live_fresh hst hid hk with h1 | ⟨rfl, _⟩
    · exact .inl h1
    · exact .inr hg
theorem C164 {l : List Int} {nx : Nat} (hl : l.length ≤ 1000000) : CallD Tryz.prog 164 [.c (ints l)] [] nx (.c (.ms nx l.length)) [(nx, rowv 3 1 r1 0 l)] (nx + 1) := by
  obtain ⟨hent, _⟩ := fn164
  refine ⟨hent, Nat.le_succ _, fun Γ w us hst hno hr => ?_⟩
  obtain ⟨us⟩ := us
  obtain ⟨u0, rfl⟩ : ∃ u0, us = [u0] := by
    have := hr.1
    match us, this with
    | [u0], _ => exact ⟨_, rfl⟩
  have q0 := hr.2 0 _ u0 rfl rfl
  have hid := hno nx (Nat.le_refl _) (Nat.lt_succ_self _)
  cases q0 with | c _ u h =>
  have h : RepD Γ.I w (.sl 1 l.length fun i => r1 (l.getD i 0)) u0 := h
  generalize hd : D.sl 1 l.length (fun i => r1 (l.getD i 0)) = d at h
  cases h with
  | v x h => cases hd
  | slE s f A c =>
    simp only [D.sl.injEq] at hd
    obtain ⟨_, h0, _⟩ := hd
    obtain rfl := List.length_eq_zero_iff.1 h0
    cases A with
    | none =>
      refine (Any.slices_Clone_int_nil kloL 0 c w).mono fun e w' ⟨he, hw⟩ => ?_
      subst hw
      obtain ⟨h1, h2⟩ := name_nil (base := 0) hst hid (Nat.zero_le _) 3 1 (fun i => r1 (([] : List Int).getD i 0))
      exact ⟨_, _, he, .c _ _ ⟨_, upd_ρ_same, .inl ⟨rfl, upd_κ_same, rfl⟩⟩, h1, CxLe.upd _ _ _ hid, fun id h => ⟨upd_ρ (by omega), upd_κ (by omega)⟩, h2⟩
    | some a =>
      refine (Any.slices_Clone_int_zero kloL a c w).mono fun e w' ⟨v', he, hown, hnil, hB⟩ => ?_
      obtain ⟨Γ', h1, h2, h3, h4, h5⟩ := own_post (l := []) hst hid hown hnil hB
      exact ⟨_, Γ', he, h1, h2, h3, h4, h5⟩
  | sl s n f ad c U hn hI hs hc hr' =>
    simp only [D.sl.injEq] at hd
    obtain ⟨rfl, rfl, rfl⟩ := hd
    have hcell : ∀ j, j < l.length → w.cell? (ad.add j) = some (.int .i64 (l.getD j 0)) := fun j hj => by
      have h1 := hc j 0 (dI (l.getD j 0)) hj rfl
      have h2 := hr' j 0 (dI (l.getD j 0)) hj rfl
      rw [Nat.mul_one, Nat.add_zero] at h1
      rw [h1]
      generalize U j 0 = u at h2
      cases h2; rfl
    rcases Nat.eq_zero_or_pos l.length with h0 | h0
    · obtain rfl := List.length_eq_zero_iff.1 h0
      refine (Any.slices_Clone_int_zero kloL ad c w).mono fun e w' ⟨v', he, hown, hnil, hB⟩ => ?_
      obtain ⟨Γ', h1, h2, h3, h4, h5⟩ := own_post (l := []) hst hid hown hnil hB
      exact ⟨_, Γ', he, h1, h2, h3, h4, h5⟩
    · obtain ⟨b, off, sp⟩ := ad
      have hsp : sp = none := by
        have := hcell 0 h0
        rw [add_zero] at this
        cases sp with
        | none => rfl
        | some x =>
          simp only [World.cell?] at this
          split at this <;> simp at this
      subst hsp
      refine (Any.slices_Clone_int kloL b off l.length c l w (Nat.le_refl _) (by omega) (fun j hj => by have := hcell j hj; rwa [Addr.add_lit] at this)).mono fun e w' ⟨v', he, hown, hnil, hB⟩ => ?_
      rw [List.take_of_length_le (Nat.le_refl _)] at hown
      obtain ⟨Γ', h1, h2, h3, h4, h5⟩ := own_post (l := l) hst hid hown hnil hB
      exact ⟨_, Γ', he, h1, h2, h3, h4, h5⟩
theorem C267e {x : Int} {a b nx : Nat} {f g : Nat → List D} (hg : g 0 = r1 x) (hab : a ≠ b) :
    CallD Tryz.prog 267 [.c (.ms a 0), vi .i64 0, .c (.ms b 1)] [(a, .row 3 1 0 f false), (b, .row 3 1 1 g false)] nx (.c (ints [x])) [] nx := by
  obtain ⟨hent, _⟩ := fn267
  refine ⟨hent, Nat.le_refl _, fun Γ w us hst _ hr => ?_⟩
  obtain ⟨us⟩ := us
  obtain ⟨u0, u1, u2, rfl⟩ : ∃ u0 u1 u2, us = [u0, u1, u2] := by
    have := hr.1
    match us, this with
    | [u0, u1, u2], _ => exact ⟨_, _, _, rfl⟩
  have q0 := hr.2 0 _ u0 rfl rfl
  have q1 := (hr.2 1 _ u1 rfl rfl).int
  have q2 := hr.2 2 _ u2 rfl rfl
  subst q1
  obtain ⟨bb, c2, xs2, hρb, rfl, hlb, hn2, hcm2, hh2, hx2, hcell2⟩ := row_lies (l := [x]) (one_row hg) hst (by rw [get_next hab]; exact get_here) (by simp) q2
  have hvs : ∀ j v, (vsI [x])[j]? = some v → w.cell? ⟨bb, 0 + j, none⟩ = some v := fun j v hj => by
    obtain ⟨h1, rfl⟩ := vsI_get hj
    rw [Nat.zero_add, cell_row hh2, hcell2 j h1]
  have grow : ∀ (base : Option Addr) (c : Nat), c = 0 → Calls Tryz.prog 267 #[.slice base 0 c, .int .i64 0, .slice (some ⟨bb, 0, none⟩) 1 c2] w fun e w' => ∃ u Γ', e = .returned u ∧ RepV Γ' w' (.c (ints [x])) u ∧ StoreOk Γ' w' [] ∧ CxLe Γ Γ' ∧ (∀ id, ¬ (nx ≤ id ∧ id < nx) → Γ'.ρ id = Γ.ρ id ∧ Γ'.κ id = Γ.κ id) ∧ Ext 0 Γ w [(a, .row 3 1 0 f false), (b, .row 3 1 1 g false)] Γ' w' [] := fun base c hc0 => by
    subst hc0
    have h := Any2.slices_Insert_int_end_grow insL base 0 0 bb 0 1 c2 [] (vsI [x]) w (by decide) (Nat.le_refl _) (by decide) (by decide) rfl rfl (fun _ => rfl) (fun a h j v hj => by cases hj) hvs vsI_one
    refine h.mono fun e w' ⟨he, hw⟩ => ?_
    have := shut_post (w' := w') (nx := nx) (ys := [x]) (B := w.heap.size) (cap := grownCap w (0 + 1) 0 (insL_ren.t 3)) hst (.inr (Nat.le_refl _)) (by rw [hw, alloc_size]; exact Nat.lt_succ_self _) (grownCap_ge w _ _ _) (fun j hj => ?_) (by rw [hw]; rfl) (by rw [hw]; rfl) (by rw [hw]; rfl) (by rw [hw, alloc_size]; exact Nat.le_succ _) (fun k hk hkb => by rw [hw]; exact heap_alloc (w := w.drew) hk)
    · rw [he]; exact this
    · have hj : j < 1 := hj
      obtain rfl : j = 0 := by omega
      rw [hw]
      refine (World.cell?_alloc_new w.drew _ _ 0).trans ?_
      rw [Array.getElem?_append_left (by simp)]; rfl
  cases q0 with | c _ u h =>
  obtain ⟨ba, hρa, ⟨_, _, rfl⟩ | ⟨c, hκ, rfl⟩⟩ := h
  · exact grow none 0 rfl
  · rcases Nat.eq_zero_or_pos c with hc0 | hc0
    · exact grow _ c hc0
    · obtain ⟨b', hb', hok⟩ := hst.ok a _ get_here
      rw [hρa] at hb'; cases hb'
      rcases hok with ⟨h1, _⟩ | ⟨c', hk, _, hI, hn, hm, _, xs, hh, hx, hcell⟩
      · rw [hκ] at h1; cases h1
      · rw [hκ] at hk; cases hk
        have hla : LiveId Γ [(a, .row 3 1 0 f false), (b, .row 3 1 1 g false)] a := .inr (.inl ⟨_, _, _, _, get_here, c, hκ⟩)
        have hlt : ba < w.heap.size := (Array.getElem?_eq_some_iff.1 hh).1
        have hs1 : ∀ j, j < (vsI [x]).length → (w.cell? ⟨ba, 0 + 0 + j, none⟩).isSome = true := fun j hj => by
          have hj : j < 1 := hj
          rw [cell_row hh, Array.getElem?_eq_getElem (by omega)]; rfl
        have h := Any2.slices_Insert_int_end_room insL ba 0 0 c bb 0 1 c2 (vsI [x]) w (by decide) (by omega) (by unfold maxLen at hm; omega) rfl hs1 (fun j _ => frozen_row hh _) hvs vsI_one
        refine h.mono fun e w' ⟨he, hw⟩ => ?_
        have := shut_post (w' := w') (nx := nx) (ys := [x]) (B := ba) (cap := c) hst (.inl ⟨a, hla, hρa⟩) (by rw [hw, size_setCells]; exact hlt) hc0 (fun j hj => ?_) (by rw [hw, os_setCells]) (by rw [hw, tape_setCells]) (by rw [hw, output_setCells]) (by rw [hw, size_setCells]; exact Nat.le_refl _) (fun k hk hkb => by rw [hw, heapo_setCells ba hkb])
        · rw [he]; exact this
        · have hj : j < 1 := hj
          obtain rfl : j = 0 := by omega
          rw [hw, sc_get hs1, if_pos ⟨by omega, by show 0 < 0 + 0 + 1; omega⟩]; rfl
theorem C267m {l : List Int} {i : Nat} {x : Int} {a b nx : Nat} {f g : Nat → List D} (hf : ∀ i, i < l.length → f i = r1 (l.getD i 0)) (hg : g 0 = r1 x) (hab : a ≠ b) (hi : i ≤ l.length) (hl : l.length ≤ 1000000) :
    CallD Tryz.prog 267 [.c (.ms a l.length), vi .i64 i, .c (.ms b 1)] [(a, .row 3 1 l.length f false), (b, .row 3 1 1 g false)] nx (.c (ints (insI l i x))) [] nx := by
  rcases Nat.eq_zero_or_pos l.length with h0 | h0
  · obtain rfl := List.length_eq_zero_iff.1 h0
    obtain rfl : i = 0 := by simpa using hi
    exact C267e hg hab
  · exact C267 hf hg hab hi h0 hl
end Go.Pw
set_option linter.unusedSimpArgs false
set_option linter.unusedVariables false
set_option maxHeartbeats 2000000
namespace Go.Pw
set_option maxRecDepth 2000
open Go Go.Proofs A1 A2 A3 A4
def bsI (x : Int) : List Int → Nat
  | [] => 0
  | y :: l => if y < x then bsI x l + 1 else 0
abbrev Srt (l : List Int) : Prop := ∀ i, i + 1 < l.length → l.getD i 0 < l.getD (i + 1) 0
theorem Srt.lt {l : List Int} (h : Srt l) {i : Nat} : ∀ {j : Nat}, i < j → j < l.length → l.getD i 0 < l.getD j 0
  | 0, h1, _ => by omega
  | j + 1, h1, h2 => by
    rcases Nat.lt_or_ge i j with h3 | h3
    · exact Int.lt_trans (Srt.lt h h3 (by omega)) (h j h2)
    · obtain rfl : i = j := by omega
      exact h i h2
theorem Srt.tail {y : Int} {l : List Int} (h : Srt (y :: l)) : Srt l := fun i hi => by
  have := h (i + 1) (by simp; omega)
  simpa using this
theorem bsI_le (x : Int) : ∀ l : List Int, bsI x l ≤ l.length
  | [] => Nat.le_refl _
  | y :: l => by
    rw [bsI]
    split
    · have := bsI_le x l; simp; omega
    · exact Nat.zero_le _
theorem bsI_lt (x : Int) : ∀ {l : List Int} {j : Nat}, j < bsI x l → l.getD j 0 < x
  | [], j, h => by cases h
  | y :: l, j, h => by
    rw [bsI] at h
    split at h
    · rename_i h1
      cases j with
      | zero => exact h1
      | succ j => simpa using bsI_lt x (l := l) (j := j) (by omega)
    · cases h
theorem bsI_ge (x : Int) : ∀ {l : List Int} {j : Nat}, Srt l → bsI x l ≤ j → j < l.length → x ≤ l.getD j 0
  | [], j, _, _, h => by cases h
  | y :: l, j, hs, h, hj => by
    rw [bsI] at h
    split at h
    · cases j with
      | zero => omega
      | succ j => simpa using bsI_ge x (l := l) (j := j) hs.tail (by omega) (by simpa using hj)
    · rename_i h1
      cases j with
      | zero => simp; omega
      | succ j =>
        have := hs.lt (i := 0) (j := j + 1) (by omega) hj
        simp at this ⊢; omega
theorem bsI_eq {x : Int} {l : List Int} {k : Nat} (hs : Srt l) (hk : k ≤ l.length) (h1 : ∀ j, j < k → l.getD j 0 < x) (h2 : ∀ j, k ≤ j → j < l.length → x ≤ l.getD j 0) : bsI x l = k := by
  have h3 := bsI_le x l
  rcases Nat.lt_trichotomy (bsI x l) k with h | h | h
  · have := h1 _ h
    have := bsI_ge x hs (Nat.le_refl _) (by omega)
    omega
  · exact h
  · have := bsI_lt x h
    have := h2 k (Nat.le_refl _) (by omega)
    omega
theorem C266 {l : List Int} {x : Int} : (Srt l ∧ l.length ≤ 1000000) → PFD Tryz.prog 266 [.c (ints l), vi .i64 x] (.tup [vi .i64 (bsI x l), vbl (decide ((bsI x l : Int) < l.length ∧ l.getD (bsI x l) 0 = x))]) := fun ⟨hs, hl⟩ => by
  refine pi2 fn266 ?_
  (repeat' first | (refine Owe.same ?_; first | refine Owe.o ?_ | refine Owe.mk ?_ ?_) | (refine Fork.same ?_; (first | refine fkD ?_ ?_ | refine fkN ?_ ?_ | refine fkM ?_ ?_) <;> intro h) | refine MvQ.stay ?_)
  refine Sat.lp0 (fun p : Nat × Nat => [(7, vi .i64 p.1), (8, vi .i64 p.2), (6, vi .i64 l.length), (0, .c (ints l)), (1, vi .i64 x)]) (fun p => p.1 ≤ p.2 ∧ p.2 ≤ l.length ∧ (∀ j, j < p.1 → l.getD j 0 < x) ∧ ∀ j, p.2 ≤ j → j < l.length → x ≤ l.getD j 0) (fun p => p.2 - p.1) (0, l.length) ⟨Nat.zero_le _, Nat.le_refl _, fun j hj => by omega, fun j h1 h2 => by simp only at h1; omega⟩ (by ((first | refine qen ?_ | refine qvs ?_ | refine qeq ?_ | refine qst ?_ | refine qv ?_ | refine qc ?_ | refine qe ?_ | refine qcs ?_ | skip); (repeat' first | exact rfl | (refine qS ?_; constructor)))) ?_
  intro ⟨i, k⟩ ⟨hik, hk, h1, h2⟩
  simp only at hik hk h1 h2
  refine Fork.dec (fun hlt => ?_) (fun hlt => ?_)
  · have hlt : i < k := by simpa using hlt
    obtain ⟨m, hm⟩ : ∃ m : Nat, (IntKind.u64.wrap ((i : Int) + (k : Int))).fdiv (2 ^ min (Int.toNat 1) IntKind.u64.bits) = (m : Int) ∧ m = (i + k) / 2 := by
      refine ⟨(i + k) / 2, ?_, rfl⟩
      have e1 : IntKind.u64.wrap ((i : Int) + (k : Int)) = ((i + k : Nat) : Int) := by
        rw [show (i : Int) + (k : Int) = ((i + k : Nat) : Int) by omega]
        simp [IntKind.wrap, IntKind.bits, IntKind.signed]; omega
      rw [e1, show (2 : Int) ^ min (Int.toNat 1) IntKind.u64.bits = 2 by decide, Int.fdiv_eq_ediv_of_nonneg _ (by decide)]
      omega
    obtain ⟨hm, hm2⟩ := hm
    have hmb : i ≤ m ∧ m < k := by omega
    (repeat' first | (refine Owe.same ?_; first | refine Owe.o ?_ | refine Owe.mk ?_ ?_) | (refine Fork.same ?_; (first | refine fkD ?_ ?_ | refine fkN ?_ ?_ | refine fkM ?_ ?_) <;> intro h) | ((first | refine OpsL.same ?_ | refine OpsDL.same ?_); first | refine pK C291 rfl rfl ?_) | refine MvQ.stay ?_)
    · have h : l.getD ((IntKind.u64.wrap ((i : Int) + (k : Int))).fdiv (2 ^ min (Int.toNat 1) IntKind.u64.bits)).toNat 0 < x := h
      rw [hm, Int.toNat_natCast] at h
      refine again0 (m + 1, k) ⟨by simp only; omega, by simp only; omega, fun j hj => ?_, h2⟩ (by simp only; omega) ?_
      · rcases Nat.lt_or_ge j m with h3 | h3
        · exact Int.lt_trans (hs.lt h3 (by omega)) h
        · obtain rfl : j = m := by simp only at hj; omega
          exact h
      · ((first | refine qen ?_ | refine qvs ?_ | refine qeq ?_ | refine qst ?_ | refine qv ?_ | refine qc ?_ | refine qe ?_ | refine qcs ?_ | skip); (repeat' first | exact rfl | (refine qS ?_; constructor)))
        show (IntKind.u64.wrap ((i : Int) + (k : Int))).fdiv (2 ^ min (Int.toNat 1) IntKind.u64.bits) + 1 = ((m + 1 : Nat) : Int)
        omega
    · have h : ¬ l.getD ((IntKind.u64.wrap ((i : Int) + (k : Int))).fdiv (2 ^ min (Int.toNat 1) IntKind.u64.bits)).toNat 0 < x := h
      rw [hm, Int.toNat_natCast] at h
      refine again0 (i, m) ⟨by simp only; omega, by simp only; omega, h1, fun j hj hj2 => ?_⟩ (by simp only; omega) ?_
      · simp only at hj
        rcases Nat.eq_or_lt_of_le hj with h3 | h3
        · subst h3; omega
        · have := hs.lt h3 hj2; omega
      · ((first | refine qen ?_ | refine qvs ?_ | refine qeq ?_ | refine qst ?_ | refine qv ?_ | refine qc ?_ | refine qe ?_ | refine qcs ?_ | skip); (repeat' first | exact rfl | (refine qS ?_; constructor)))
        exact hm
  · have hlt : ¬ i < k := by simpa using hlt
    obtain rfl : i = k := by omega
    have e := bsI_eq hs hk h1 h2
    rw [e]
    (repeat' first | (refine Owe.same ?_; first | refine Owe.o ?_ | refine Owe.mk ?_ ?_) | (refine Fork.same ?_; (first | refine fkY ?_ | refine fkF ?_ | ((first | refine fkD ?_ ?_ | refine fkN ?_ ?_ | refine fkM ?_ ?_) <;> intro h))) | ((first | refine OpsL.same ?_ | refine OpsDL.same ?_); first | refine oK C292 rfl rfl rfl ?_) | refine MvQ.stay ?_)
    · rename_i h0
      have h : l.getD i 0 = x := h
      have h0 : (i : Int) < l.length := h0
      (refine rqK rfl ?_; (repeat' first | exact rfl | (refine qS ?_; constructor)))
      have hf : decide ((i : Int) < l.length ∧ l.getD i 0 = x) = true := decide_eq_true ⟨h0, h⟩
      first | exact hf | exact hf.symm
    · rename_i h0
      have h : ¬ l.getD i 0 = x := h
      (refine rqK rfl ?_; (repeat' first | exact rfl | (refine qS ?_; constructor)))
      have hf : decide ((i : Int) < l.length ∧ l.getD i 0 = x) = false := decide_eq_false fun hh => h hh.2
      first | exact hf | exact hf.symm
    · have h : ¬ (i : Int) < l.length := h
      (refine rqK rfl ?_; (repeat' first | exact rfl | (refine qS ?_; constructor)))
      have hf : decide ((i : Int) < l.length ∧ l.getD i 0 = x) = false := decide_eq_false fun hh => h hh.1
      first | exact hf | exact hf.symm
theorem C144 {s : Si} {t : St8} {n : Int} : t.d.length ≤ 1000000 → PFD Tryz.prog 144 [div s t, vi .i64 n] (vbl (decide (n ∈ t.d))) := fun h => by
  have c1 := C186 (l := t.d) (n := n) h
  refine pi1 fn144 ?_
  (repeat' first | (refine Owe.same ?_; first | refine Owe.o ?_ | refine Owe.mk ?_ ?_) | (refine Fork.same ?_; (first | refine fkD ?_ ?_ | refine fkN ?_ ?_ | refine fkM ?_ ?_) <;> intro h) | ((first | refine OpsL.same ?_ | refine OpsDL.same ?_); first | refine pK c1 rfl rfl ?_) | refine MvQ.stay ?_)
  (refine rqK rfl ?_; (repeat' first | exact rfl | (refine qS ?_; constructor)))
theorem C254 {s : Si} {t : St8} {n : Int} : t.d.length ≤ 1000000 → PFD Tryz.prog 254 [vi .i64 n, .c (.rp (diD s t))] (vbl (!decide (n ∈ t.d))) := fun h => by
  have c1 := C144 (s := s) (t := t) (n := n) h
  refine pi1 fn254 ?_
  (repeat' first | (refine Owe.same ?_; first | refine Owe.o ?_ | refine Owe.mk ?_ ?_) | (refine Fork.same ?_; (first | refine fkD ?_ ?_ | refine fkN ?_ ?_ | refine fkM ?_ ?_) <;> intro h) | ((first | refine OpsL.same ?_ | refine OpsDL.same ?_); first | refine pK c1 rfl rfl ?_) | refine MvQ.stay ?_)
  (refine rqK rfl ?_; (repeat' first | exact rfl | (refine qS ?_; constructor)))
end Go.Pw
set_option linter.unusedVariables false
set_option maxHeartbeats 2000000
set_option maxRecDepth 100000
namespace Go.Pw
open Go Go.Proofs
def lc225m : LCode :=
 (zQ [zI 2 (.boxS (zR 0)), zI 4 (.alloc [(.slice none 0 0), (.slice none 0 0), (.slice none 0 0), (.slice none 0 0), (.int .i64 0), (.int .i64 0), (.int .i64 0), (.int .i64 0), (.int .i64 0), (.int .i64 0), (.int .i64 0),
 (.int .i64 0), (.slice none 0 0)]), zI 5 (.mv (zK 0))] (zQ [zI 13 (.fld 0 (zR 2)), zI 14 (.fld 0 (zR 13)), zL 15 14, zM 16 1, zI 17 (.idx 9 (zR 15) (zR 16)), zI 18 (.load true 9 (zR 17)), ⟨some 6, .alloc [(.string
 ⟨#[]⟩), (.int .i64 0), (.int .i64 0), (.int .i64 0), (.int .i64 0), (.int .i64 0), (.int .i64 0), (.int .i64 0), (.slice none 0 0)], none⟩, zN (.store 9 (zR 6) (zR 18))] (.seq (.regionD [zI 19 (.load true 13 (zR 2)), zI
 20 (.fld 0 (zR 2)), zI 21 (.fld 1 (zR 20)), zL 22 21, zI 23 (.fld 8 (zR 2)), zI 24 (.fld 0 (zR 23)), zL 25 24, zI 26 (.idx 1 (zR 22) (zR 25)), zL 27 26, zI 28 (.fld 1 (zR 6)), zL 29 28, zI 30 (.idx 1 (zR 27) (zR 29)), zL
 31 30, zI 32 (.fld 8 (zR 2)), zI 33 (.fld 1 (zR 32)), zL 34 33, zI 35 (zC 227 [(zR 19), (zR 31), (zR 34)]), zM 7 35] [0, 0, 2, 6, 0, 16, 48, 126, 254, 0, 512, 2046, 4094, 0, 8192, 24576, 65535, 131071] [0, 1, 2, 3, 4, 5,
 6, 7, 8, 9, 10, 11, 12, 13, 14, 15, 16, 17]) (zQ [zI 36 (.fld 8 (zR 2)), zI 37 (.fld 1 (zR 36)), zL 38 37, zM 39 7, zI 40 (.bin .add (zR 38) (zR 39)), zM 8 40] (zQ [zM 41 8, zI 42 (.fld 6 (zR 6)), zI 43 (.fld 0 (zR 42)),
 zL 44 43, zI 45 (.mm true [(zR 41), (zR 44)]), zM 9 45] (zQ [zI 46 (.load true 13 (zR 2)), zI 10 (.alloc [(.slice none 0 0), (.slice none 0 0), (.slice none 0 0), (.slice none 0 0), (.int .i64 0), (.int .i64 0), (.int
 .i64 0), (.int .i64 0), (.int .i64 0), (.int .i64 0), (.int .i64 0), (.int .i64 0), (.slice none 0 0)]), zN (.store 13 (zR 10) (zR 46))] (.seq (.regionD [zI 47 (.fld 1 (zR 6)), zL 48 47, zM 49 9, zI 50 (.fld 2 (zR 6)),
 zL 51 50, zI 52 (.bin .add (zR 49) (zR 51)), zI 53 (.fld 8 (zR 10)), zI 54 (.fld 0 (zR 53)), zN (.store 1 (zR 54) (zR 48)), zI 55 (.fld 8 (zR 10)), zI 56 (.fld 1 (zR 55)), zN (.store 1 (zR 56) (zR 52))] [0, 1, 0, 0, 8,
 28, 3, 67, 195, 511, 1023, 2047] [0, 1, 2, 3, 4, 5, 6, 7, 8, 9, 10, 11]) (zQ [zI 57 (.fld 8 (zR 10)), zI 58 (.fld 2 (zR 57)), zL 59 58, zM 60 7, zI 61 (.fld 0 (zR 2)), zI 62 (.fld 5 (zR 61)), zL 63 62, zI 64 (.bin .mul
 (zR 60) (zR 63)), zM 65 9, zM 66 8, zI 67 (.bin .sub (zR 65) (zR 66)), zI 68 (.fld 0 (zR 2)), zI 69 (.fld 4 (zR 68)), zL 70 69, zI 71 (.bin .mul (zR 67) (zR 70)), zI 72 (.bin .add (zR 64) (zR 71)), zI 73 (.fld 3 (zR 6)),
 zL 74 73, zI 75 (.bin .add (zR 72) (zR 74)), zI 76 (.bin .sub (zR 59) (zR 75)), zI 77 (.fld 8 (zR 10)), zI 78 (.fld 2 (zR 77)), zN (.store 1 (zR 78) (zR 76))] (zQ [zI 79 (.fld 8 (zR 10)), zI 80 (.fld 3 (zR 79)), zL 81
 80, zI 82 (.fld 4 (zR 6)), zL 83 82, zI 84 (.bin .sub (zR 81) (zR 83)), zI 85 (.fld 8 (zR 10)), zI 86 (.fld 3 (zR 85)), zN (.store 1 (zR 86) (zR 84))] (zQ [zI 88 (.fld 8 (zR 2)), zI 89 (.fld 4 (zR 88)), zL 90 89, zM 91
 1, zI 92 (zC 266 [(zR 90), (zR 91)]), zM 87 92, zI 93 (.ext (zR 87) 0), zI 94 (.ext (zR 87) 1), zM 11 93, zM 12 94] (zQ [zI 95 (.fld 8 (zR 2)), zI 96 (.fld 4 (zR 95)), zL 97 96, zI 98 (zC 164 [(zR 97)]), zM 99 11, zM 100
 1, zI 101 (.lit true 3 1 [(zR 100)]), zI 102 (zC 267 [(zR 98), (zR 99), (zR 101)]), zI 103 (.fld 8 (zR 10)), zI 104 (.fld 4 (zR 103)), zN (.store 1 (zR 104) (zR 102))] (.seq (.regionD [zI 105 (.load true 13 (zR 10)), zM
 106 8, zI 107 (.fld 6 (zR 6)), zI 108 (.fld 1 (zR 107)), zL 109 108, zI 110 (.bin .leq (zR 106) (zR 109)), zI 111 (zC 152 [(zR 110), (zK 22)]), zI 112 (.fld 8 (zR 10)), zI 113 (.fld 3 (zR 112)), zL 114 113, zI 115 (.bin
 .geq (zR 114) (zK 0)), zI 116 (zC 152 [(zR 115), (zK 11)]), zI 117 (.load true 13 (zR 10)), zI 118 (zC 165 [(zR 117)]), zI 119 (zC 152 [(zR 118), (zK 24)]), zI 120 (.lit false 34 1 [(zR 111), (zR 116), (zR 119)]), zI 121
 (zC 151 [(zR 120)]), zN (.store 13 (zR 4) (zR 105)), zM 5 121] [0, 0, 0, 4, 12, 30, 62, 0, 128, 384, 896, 2046, 0, 8190, 16382, 32766, 65534, 131071, 262143] [0, 1, 2, 3, 4, 5, 6, 7, 8, 9, 10, 11, 12, 13, 14, 15, 16, 17,
 18]) .ret))))))))))))
theorem low225m : lowF Tryz.prog [2, 101] Tryz.f225 = some (122, lc225m.strip, [.cell 4 true 13, .tmp 5]) := by kernel_rfl
theorem fn225m : FnOk Tryz.prog 225 122 lc225m [.cell 4 true 13, .tmp 5] := ⟨Tryz.call225, [2, 101], _, Tryz.func225, low225m⟩
end Go.Pw
set_option linter.unusedSimpArgs false
set_option linter.unusedVariables false
set_option maxHeartbeats 2000000
namespace Go.Pw
set_option maxRecDepth 2000
open Go Go.Proofs A1 A2 A3 A4
section
variable {P : Program} {N base : Nat}
theorem OpsL.cm [m : Mix P] {dst : Option Nat} {fop : Operand} {xs : List Operand} {g : Option (Nat × Bool)} {rest : List LIns} {env : List (Nat × V)} {σ : Store} (σ0 σ1 : Store) {nx hi : Nat} {K : St → Prop} {f : FuncId} {args : List V} {v : V}
    (hc : CallD P f args σ0 nx v σ1 hi) (hs : Sub σ0 σ) (hf : evo env fop = .c (.fn f [])) (hg : guardOf env g = .run) (ha : RIs (xs.map (evo env)) args)
    (h : putK dst v env fun env' => frS (app σ0 σ1 σ) fun σ' => frNat hi fun hi' => wpOps P N base rest env' σ' hi' none K) : OpsL P N base (⟨dst, .call fop xs, g⟩ :: rest) ⟨env, σ, nx⟩ K := by
  rw [putK_eq, frS_eq, frNat_eq] at h
  exact ⟨Ops.call (i := ⟨dst, .call fop xs, g⟩) (st := ⟨env, σ, nx⟩) hg rfl hf (by simpa using ha) hc hs (Ops.wp h)⟩
end
theorem sub2 {σ : Store} {a b : Nat} {e e' : Ent} (h1 : get σ a = some e) (h2 : get σ b = some e') : Sub [(a, e), (b, e')] σ := fun id x h => by
  by_cases ha : a = id
  · subst ha; rw [get_here] at h; rw [h1]; exact h
  · rw [get_next ha] at h
    by_cases hb : b = id
    · subst hb; rw [get_here] at h; rw [h2]; exact h
    · rw [get_next hb] at h; cases h
theorem sub_nil {σ : Store} : Sub [] σ := fun id e h => by simp [get] at h
abbrev tkA (s : Si) (n : Int) : Tk := s.tk.getD n.toNat tk0
abbrev trT (s : Si) (t : St8) (p : Int) : Int := swF s.ti ((s.tr.getD t.p.toNat []).getD p.toNat 0) t.t
def nxT (s : Si) (t : St8) (T : Tk) (sw n : Int) : St8 := ⟨T.p, max (t.t + sw) T.lo + T.d, t.w - (sw * s.swim + (max (t.t + sw) T.lo - (t.t + sw)) * s.idle + T.w), t.o - T.o, insI t.d (bsI n t.d) n⟩
def nxF (s : Si) (t : St8) (T : Tk) (sw n : Int) : Int := fstE [unl (t.t + sw ≤ T.hi) 22, unl (0 ≤ (nxT s t T sw n).o) 11, unb (reB s (nxT s t T sw n)) 24]
abbrev nxS (s : Si) (t : St8) (n : Int) : St8 := nxT s t (tkA s n) (trT s t (tkA s n).p) n
abbrev nxE (s : Si) (t : St8) (n : Int) : Int := nxF s t (tkA s n) (trT s t (tkA s n).p) n
structure TkB (s : Si) (T : Tk) : Prop where
  p : 0 ≤ T.p ∧ T.p < s.ho.length
  d : isN T.d
  w : isN T.w
  o : isN T.o
  lo : isT T.lo
  hi : isT T.hi
theorem TkOk.b {s : Si} {i : Nat} (h : TkOk s i) : TkB s (s.tk.getD i tk0) := ⟨⟨h.p.1, h.q⟩, h.d, h.w, h.o, h.lo, h.hi⟩
theorem trT_bd {s : Si} {t : St8} {p : Int} (h : OnOk s t) : 0 ≤ trT s t p ∧ trT s t p ≤ 20000 := by
  have h1 := ((h.ok.r t.p.toNat (by have := h.pl; omega)).2.1) p.toNat
  have := swF_bd (a := t.t) (fun k hk => (h.ok.u k hk).1.2) h1
  simp only [trT]
  omega
theorem nxT_b {s : Si} {t : St8} {T : Tk} {sw n : Int} (h : OnOk s t) (hT : TkB s T) (hb : 0 ≤ sw ∧ sw ≤ 20000) : DvB s (nxT s t T sw n) := by
  have h2 := h.tm
  have h3 := h.en
  have h4 := h.ok.e
  have h7 := hT.lo; have h8 := hT.d; have h9 := hT.w
  have m1 := mbd (a := sw) (A := 20000) (by omega) (b := s.swim) (B := 10000) (by omega)
  have m2 := mbd (a := max (t.t + sw) T.lo - (t.t + sw)) (A := 200000) (by omega) (b := s.idle) (B := 10000) (by omega)
  refine ⟨h.ok, hT.p, ?_, ?_⟩
  · simp only [nxT]; omega
  · simp only [nxT]; omega
theorem Srt.of {l : List Int} {b : Int} (h : (ascE l b).2 = 0) : Srt l ∧ (∀ i, i < l.length → 0 ≤ l.getD i 0 ∧ l.getD i 0 ≤ b - 1) := by
  rw [ascE, eachN_ok] at h
  refine ⟨fun i hi => ?_, fun i hi => ?_⟩
  · have := h (i + 1) hi
    rw [ascN, fst2, unl0 (by decide), unl0 (by decide)] at this
    have := this.2
    rwa [lastI, if_neg (by omega), Nat.add_sub_cancel] at this
  · have := h i hi
    rw [ascN, fst2, unl0 (by decide), unl0 (by decide)] at this
    exact this.1
theorem C225 {s : Si} {t : St8} {n : Int} : (OnOk s t ∧ t.d.length ≤ 1000 ∧ 0 ≤ n ∧ n < s.tk.length) → PFD Tryz.prog 225 [div s t, vi .i64 n] (.tup [div s (nxS s t n), vi .i64 (nxE s t n)]) := fun ⟨h, hd, hn⟩ => by
  have hb := trT_bd (p := (tkA s n).p) h
  have hB := (h.ok.t n.toNat (by omega)).b
  have hN := C165 (nxT_b (n := n) h hB hb)
  have h2 := h.tm
  have h3 := h.en
  have h4 := h.ok.e
  have h11 := h.oil
  have h12 := h.pl
  have h13 := h.ok.h
  have h14 := (h.ok.r t.p.toNat (by omega)).1.2
  have h15 := h.ok.m
  have h16 := h.ok.n
  have h17 := (h.ok.r t.p.toNat (by omega)).2.1 (tkA s n).p.toNat
  have c1 := C227 (s := s) (t := t) (n := (s.tr.getD t.p.toNat []).getD (tkA s n).p.toNat 0) (a := t.t) ⟨by omega, fun k hk => (h.ok.u k hk).1.2, by omega⟩
  have c2 := C266 (l := t.d) (x := n) ⟨(Srt.of h.d).1, by omega⟩
  have hle := bsI_le n t.d
  change PFD Tryz.prog 227 _ (vi .i64 (trT s t (tkA s n).p)) at c1
  simp only [nxS, nxE, tkA] at *
  generalize hsw : trT s t (s.tk.getD n.toNat tk0).p = sw at *
  obtain ⟨b5, b6, b7, b8, b9, b10⟩ := hB
  have m1 := mbd (a := sw) (A := 20000) (by omega) (b := s.swim) (B := 10000) (by omega)
  have m2 := mbd (a := max (t.t + sw) (s.tk.getD n.toNat tk0).lo - (t.t + sw)) (A := 200000) (by omega) (b := s.idle) (B := 10000) (by omega)
  refine pi2 fn225m ?_
  (repeat' first | (refine Owe.same ?_; first | refine Owe.o ?_ | refine Owe.mk ?_ ?_) | (refine Fork.same ?_; (first | refine fkD ?_ ?_ | refine fkN ?_ ?_ | refine fkM ?_ ?_) <;> intro h) | ((first | refine OpsL.same ?_ | refine OpsDL.same ?_); first | refine pK c1 rfl rfl ?_ | refine pK c2 rfl rfl ?_) | refine MvQ.stay ?_)
  refine OpsL.cm [] _ (C164 (l := t.d) (by omega)) sub_nil rfl rfl (ris0 rfl) ?_
  (repeat' first | (refine Owe.same ?_; first | refine Owe.o ?_ | refine Owe.mk ?_ ?_) | (refine Fork.same ?_; (first | refine fkD ?_ ?_ | refine fkN ?_ ?_ | refine fkM ?_ ?_) <;> intro h) | refine MvQ.stay ?_)
  refine OpsL.cm _ [] (C267m (l := t.d) (i := bsI n t.d) (x := n) (a := 32) (b := 33) (f := fun i => r1 (t.d.getD i 0)) (g := fun i => [[D.v (Value.int IntKind.i64 n)]].getD i []) (fun _ _ => rfl) rfl (by decide) hle (by omega)) (sub2 rfl rfl) rfl rfl (ris0 rfl) ?_
  (repeat' first | (refine Owe.same ?_; first | refine Owe.o ?_ | refine Owe.mk ?_ ?_) | (refine Fork.same ?_; (first | refine fkD ?_ ?_ | refine fkN ?_ ?_ | refine fkM ?_ ?_) <;> intro h) | ((first | refine OpsL.same ?_ | refine OpsDL.same ?_); first | refine pK hN rfl rfl ?_ | refine pK C152 rfl rfl ?_ | refine pK C151 rfl rfl ?_) | refine MvQ.stay ?_)
  (refine rqK rfl ?_; (repeat' first | exact rfl | (refine qS ?_; constructor)))
abbrev nedB (s : Si) (t : St8) (n : Int) : Bool := (tkA s n).a.any fun m => !decide (m ∈ t.d)
abbrev spF (s : Si) (t : St8) (n : Int) : Int := fstE [unb (!decide (n ∈ t.d)) 23, unb (!nedB s t n) 9]
def spE (s : Si) (t : St8) (n : Int) : Int := if wi n 0 ((s.tk.length : Int) - 1) = true then (if spF s t n = 0 then nxE s t n else spF s t n) else 6
def spS (s : Si) (t : St8) (n : Int) : St8 := if wi n 0 ((s.tk.length : Int) - 1) = true then (if spF s t n = 0 then nxS s t n else t) else t
theorem C196 {s : Si} {t : St8} {n : Int} : (OnOk s t ∧ t.d.length ≤ 1000 ∧ TkSm s.tk) → PFD Tryz.prog 196 [div s t, vi .i64 n] (.tup [div s (spS s t n), vi .i64 (spE s t n)]) := fun ⟨h, hd, hs⟩ => by
  have h16 := h.ok.n
  by_cases hn : 0 ≤ n ∧ n ≤ (s.tk.length : Int) - 1
  · have hw : wi n 0 ((s.tk.length : Int) - 1) = true := decide_eq_true hn
    have c1 := C158 (g := 254) (rows := [diD s t]) (l := (tkA s n).a) (f := fun i => !decide ((tkA s n).a.getD i 0 ∈ t.d)) (fun i hi => C254 (s := s) (t := t) (by omega)) (hs n.toNat (by omega)).2
    rw [anyN_mem (p := fun m => !decide (m ∈ t.d))] at c1
    have c2 := C144 (s := s) (t := t) (n := n) (by omega)
    have c3 := C225 (s := s) (t := t) (n := n) ⟨h, hd, by omega⟩
    obtain ⟨q, hq⟩ : ∃ q, q = spE s t n := ⟨_, rfl⟩
    obtain ⟨S, hS⟩ : ∃ S, S = spS s t n := ⟨_, rfl⟩
    rw [← hq, ← hS]
    rw [spE, if_pos hw] at hq
    rw [spS, if_pos hw] at hS
    generalize hX : nxS s t n = X at *
    generalize hY : nxE s t n = Y at *
    refine pi2 fn196 ?_
    (repeat' first | (refine Owe.same ?_; first | refine Owe.o ?_ | refine Owe.mk ?_ ?_) | (refine Fork.same ?_; (first | refine fkY ?_ | refine fkF ?_ | ((first | refine fkD ?_ ?_ | refine fkN ?_ ?_ | refine fkM ?_ ?_) <;> intro h))) | ((first | refine OpsL.same ?_ | refine OpsDL.same ?_); first | refine pK C168 rfl rfl ?_ | refine pK c1 rfl rfl ?_ | refine pK c2 rfl rfl ?_ | refine pK C152 rfl rfl ?_ | refine pK C151 rfl rfl ?_) | refine MvQ.stay ?_)
    · have h : ¬ spF s t n = 0 := h
      rw [if_neg h] at hq hS
      subst hq; subst hS
      (refine rqK rfl ?_; (repeat' first | exact rfl | (refine qS ?_; constructor)))
    · have h : spF s t n = 0 := h
      rw [if_pos h] at hq hS
      subst hq; subst hS
      (repeat' first | (refine Owe.same ?_; first | refine Owe.o ?_ | refine Owe.mk ?_ ?_) | (refine Fork.same ?_; (first | refine fkD ?_ ?_ | refine fkN ?_ ?_ | refine fkM ?_ ?_) <;> intro h) | ((first | refine OpsL.same ?_ | refine OpsDL.same ?_); first | refine pK c3 rfl rfl ?_) | refine MvQ.stay ?_)
      (refine rqK rfl ?_; (repeat' first | exact rfl | (refine qS ?_; constructor)))
  · have hw : ¬ wi n 0 ((s.tk.length : Int) - 1) = true := fun hh => hn (of_decide_eq_true hh)
    rw [spE, spS, if_neg hw, if_neg hw]
    refine pi2 fn196 ?_
    (repeat' first | (refine Owe.same ?_; first | refine Owe.o ?_ | refine Owe.mk ?_ ?_) | (refine Fork.same ?_; (first | refine fkY ?_ | refine fkF ?_ | ((first | refine fkD ?_ ?_ | refine fkN ?_ ?_ | refine fkM ?_ ?_) <;> intro h))) | ((first | refine OpsL.same ?_ | refine OpsDL.same ?_); first | refine oK C168 rfl rfl rfl ?_) | refine MvQ.stay ?_)
    (refine rqK rfl ?_; (repeat' first | exact rfl | (refine qS ?_; constructor)))
abbrev st0 : St8 := ⟨0, 0, 0, 0, []⟩
end Go.Pw
set_option linter.unusedVariables false
set_option maxHeartbeats 2000000
set_option maxRecDepth 100000
namespace Go.Pw
open Go Go.Proofs
def lc263m : LCode :=
 (zQ [zI 5 (.boxS (zR 0)), zI 7 (.mv (zB false))] (.seq (zQ [zL 11 2, zM 12 1, zI 13 (.call (zR 11) [(zR 12)]), zI 14 (.un .not (zR 13))] (.cond (zR 14) (zQ [zI 7 (.mv (zB false))] .ret) .skip)) (.seq (zQ [zI 15 (.fld 0
 (zR 5)), zI 16 (.fld 0 (zR 15)), zL 17 16, zI 18 (.len (zR 17)), zI 19 (.mv (zK 0))] (.block 0 (.loop (zQ [zI 20 (.bin .lss (zR 19) (zR 18))] (.seq (.cond (zR 20) .skip (.exit 0)) (.seq (.block 1 (zQ [zM 21 19, zM 8 21]
 (.seq (zQ [zL 22 3, zM 23 8, zI 24 (.call (zR 22) [(zR 23)]), zI 25 (.un .not (zR 24))] (.cond (zR 25) (.exit 1) .skip)) (zQ [zI 27 (.load true 13 (zR 5)), zM 28 8, zI 29 (zC 196 [(zR 27), (zR 28)]), zM 26 29, zI 30
 (.ext (zR 26) 0), zI 31 (.ext (zR 26) 1), zI 9 (.alloc [(.slice none 0 0), (.slice none 0 0), (.slice none 0 0), (.slice none 0 0), (.int .i64 0), (.int .i64 0), (.int .i64 0), (.int .i64 0), (.int .i64 0), (.int .i64
 0), (.int .i64 0), (.int .i64 0), (.slice none 0 0)]), zN (.store 13 (zR 9) (zR 30)), zM 10 31] (.seq (.regionD [zM 32 10, zI 33 (.bin .eql (zR 32) (zK 0)), zM 34 33, zT 35 34 (.load false 1 (zR 4)), zT 36 34 (.load true
 13 (zR 9)), zT 37 34 (.mv (zR 1)), zT 38 34 (zC 264 [(zR 37)]), zT 39 34 (.mv (zR 8)), zT 40 34 (.lit false 3 1 [(zR 39)]), zT 41 34 (.append false 3 1 8 (zR 38) (zR 40)), zT 42 34 (.call (zR 35) [(zR 36), (zR 41)]), zT
 43 34 (.un .not (zR 42)), zI 44 (.pick (zR 34) (zR 43) (zB false))] [0, 1, 3, 7, 7, 7, 39, 7, 135, 487, 1023, 2047, 4095] [0, 1, 2, 3, 4, 5, 6, 7, 8, 9, 10, 11, 12]) (.cond (zR 44) (zQ [zI 7 (.mv (zB false))] .ret)
 .skip)))))) (.region [zI 45 (.bin .add (zR 19) (zK 1)), zM 19 45]))))))) (zQ [zI 7 (.mv (zB true))] .ret))))
theorem low263m : lowF Tryz.prog [5] Tryz.f263 = some (46, lc263m.strip, [.tmp 7]) := by kernel_rfl
theorem fn263m : FnOk Tryz.prog 263 46 lc263m [.tmp 7] := ⟨Tryz.call263, [5], _, Tryz.func263, low263m⟩
end Go.Pw
set_option linter.unusedSimpArgs false
set_option linter.unusedVariables false
set_option maxHeartbeats 2000000
namespace Go.Pw
set_option maxRecDepth 2000
open Go Go.Proofs A1 A2 A3 A4
open Go.RowKit
theorem CallD.at {P : Program} {f : FuncId} {args : List V} {σ σ' : Store} {v : V} {n : Nat} (h : CallD P f args σ n v σ' n) (nx : Nat) : CallD P f args σ nx v σ' nx := by
  refine ⟨h.1, Nat.le_refl _, fun Γ w us hst _ hr => ?_⟩
  refine (h.2.2 Γ w us hst (fun id h1 h2 => absurd h2 (by omega)) hr).mono (fun e w' ⟨u, Γ', h1, h2, h3, h4, h5, h6⟩ => ⟨u, Γ', h1, h2, h3, h4, fun id _ => h5 id (by omega), h6⟩)
theorem C164d {l : List Int} (hl : l.length ≤ 1000000) : PFD Tryz.prog 164 [.c (ints l)] (.c (ints l)) := by
  obtain ⟨hent, _⟩ := fn164
  refine ⟨hent, Nat.le_refl _, fun Γ w us hst hno hr => ?_⟩
  have key : ∀ v' w', w'.ownsRow w.heap.size 3 1 v' l.length (vsI l) → v' ≠ .slice none 0 0 → Below w.heap.size w w' → ∃ Γ', RepV Γ' w' (.c (ints l)) v' ∧ StoreOk Γ' w' [] ∧ CxLe Γ Γ' ∧ (∀ id, ¬ (0 ≤ id ∧ id < 0) → Γ'.ρ id = Γ.ρ id ∧ Γ'.κ id = Γ.κ id) ∧ Ext 0 Γ w [] Γ' w' [] := fun v' w' hown hnil hB => by
    obtain ⟨_, ⟨h, _⟩ | ⟨g, cap, cur, rfl, hg, hh, hn, hc, hs, ht⟩⟩ := hown
    · exact absurd h hnil
    · obtain ⟨u, Γ', h1, h2⟩ := shut_post (w' := w') (nx := 0) (ys := l) (B := g) (cap := cap) hst (.inr hg) (Array.getElem?_eq_some_iff.1 hh).1 hn (fun j hj => by
        have h1 := vsI_at hj
        rw [← ht, List.getElem?_take, Nat.mul_one, if_pos hj] at h1
        rw [cell_row hh]; simpa using h1) hB.os hB.tape hB.output hB.size (fun k hk _ => hB.block k hk)
      simp only [Ending.returned.injEq] at h1
      subst h1
      exact ⟨Γ', h2⟩
  obtain ⟨us⟩ := us
  obtain ⟨u0, rfl⟩ : ∃ u0, us = [u0] := by
    have := hr.1
    match us, this with
    | [u0], _ => exact ⟨_, rfl⟩
  have q0 := hr.2 0 _ u0 rfl rfl
  cases q0 with | c _ u h =>
  have h : RepD Γ.I w (.sl 1 l.length fun i => r1 (l.getD i 0)) u0 := h
  generalize hd : D.sl 1 l.length (fun i => r1 (l.getD i 0)) = d at h
  cases h with
  | v x h => cases hd
  | slE s f A c =>
    simp only [D.sl.injEq] at hd
    obtain ⟨_, h0, _⟩ := hd
    obtain rfl := List.length_eq_zero_iff.1 h0
    cases A with
    | none =>
      refine (Any.slices_Clone_int_nil kloL 0 c w).mono fun e w' ⟨he, hw⟩ => ?_
      subst hw
      exact ⟨_, Γ, he, .c _ _ (.slE _ _ _ _), hst, CxLe.refl _, fun _ _ => ⟨rfl, rfl⟩, Ext.refl _ _ _ _⟩
    | some a =>
      refine (Any.slices_Clone_int_zero kloL a c w).mono fun e w' ⟨v', he, hown, hnil, hB⟩ => ?_
      obtain ⟨Γ', h1⟩ := key _ _ hown hnil hB
      exact ⟨_, Γ', he, h1⟩
  | sl s n f ad c U hn hI hs hc hr' =>
    simp only [D.sl.injEq] at hd
    obtain ⟨rfl, rfl, rfl⟩ := hd
    have hcell : ∀ j, j < l.length → w.cell? (ad.add j) = some (.int .i64 (l.getD j 0)) := fun j hj => by
      have h1 := hc j 0 (dI (l.getD j 0)) hj rfl
      have h2 := hr' j 0 (dI (l.getD j 0)) hj rfl
      rw [Nat.mul_one, Nat.add_zero] at h1
      rw [h1]
      generalize U j 0 = u at h2
      cases h2; rfl
    rcases Nat.eq_zero_or_pos l.length with h0 | h0
    · obtain rfl := List.length_eq_zero_iff.1 h0
      refine (Any.slices_Clone_int_zero kloL ad c w).mono fun e w' ⟨v', he, hown, hnil, hB⟩ => ?_
      obtain ⟨Γ', h1⟩ := key _ _ hown hnil hB
      exact ⟨_, Γ', he, h1⟩
    · obtain ⟨b, off, sp⟩ := ad
      have hsp : sp = none := by
        have := hcell 0 h0
        rw [add_zero] at this
        cases sp with
        | none => rfl
        | some x =>
          simp only [World.cell?] at this
          split at this <;> simp at this
      subst hsp
      refine (Any.slices_Clone_int kloL b off l.length c l w (Nat.le_refl _) (by omega) (fun j hj => by have := hcell j hj; rwa [Addr.add_lit] at this)).mono fun e w' ⟨v', he, hown, hnil, hB⟩ => ?_
      rw [List.take_of_length_le (Nat.le_refl _)] at hown
      obtain ⟨Γ', h1⟩ := key _ _ hown hnil hB
      exact ⟨_, Γ', he, h1⟩
theorem C264 {l : List Int} : l.length ≤ 1000000 → PFD Tryz.prog 264 [.c (ints l)] (.c (.cl 1 l.length fun i => r1 (l.getD i 0))) := fun hl => by
  refine pi1 fn264 ?_
  (repeat' first | (refine Owe.same ?_; first | refine Owe.o ?_ | refine Owe.mk ?_ ?_) | (refine Fork.same ?_; (first | refine fkD ?_ ?_ | refine fkN ?_ ?_ | refine fkM ?_ ?_) <;> intro h) | refine MvQ.stay ?_)
  (refine rqK rfl ?_; (repeat' first | exact rfl | (refine qS ?_; constructor)))
theorem C143 {n : Int} : PFD Tryz.prog 143 [vi .i64 n] (vbl true) := by
  refine pi1 fn143 ?_
  (repeat' first | (refine Owe.same ?_; first | refine Owe.o ?_ | refine Owe.mk ?_ ?_) | (refine Fork.same ?_; (first | refine fkD ?_ ?_ | refine fkN ?_ ?_ | refine fkM ?_ ?_) <;> intro h) | refine MvQ.stay ?_)
  (refine rqK rfl ?_; (repeat' first | exact rfl | (refine qS ?_; constructor)))
def vaP (s : Si) (l : List Int) : Nat → Int
  | 0 => 0
  | k + 1 => vaP s l k + (tkA s (l.getD k 0)).v
abbrev vaI (s : Si) (l : List Int) : Int := vaP s l l.length
abbrev tkNs (s : Si) (l : List Int) : Prop := ∀ k, k < l.length → 0 ≤ l.getD k 0 ∧ l.getD k 0 < s.tk.length
theorem vaP_bd {s : Si} {l : List Int} (h : SiOk s) (hl : tkNs s l) : ∀ k, k ≤ l.length → 0 ≤ vaP s l k ∧ vaP s l k ≤ k * 10000
  | 0, _ => ⟨Int.le_refl _, Int.le_refl _⟩
  | k + 1, hk => by
    have ih := vaP_bd h hl k (by omega)
    have h1 := hl k (by omega)
    have h2 := (h.t (l.getD k 0).toNat (by omega)).v
    rw [vaP]
    simp only [tkA]
    omega
theorem C163 {s : Si} {l : List Int} : (SiOk s ∧ tkNs s l ∧ l.length ≤ 1000) → PFD Tryz.prog 163 [siv s, .c (ints l)] (vi .i64 (vaI s l)) := fun ⟨h, hl, hn⟩ => by
  have h6 := h.n
  refine pi1 fn163 ?_
  (repeat' first | (refine Owe.same ?_; first | refine Owe.o ?_ | refine Owe.mk ?_ ?_) | (refine Fork.same ?_; (first | refine fkD ?_ ?_ | refine fkN ?_ ?_ | refine fkM ?_ ?_) <;> intro h) | refine MvQ.stay ?_)
  refine Sat.lp0 (fun k : Nat => [(10, vi .i64 k), (9, vi .i64 l.length), (8, .c (ints l)), (2, .c (.rp (siD s))), (5, vi .i64 (vaP s l k))]) (fun k => k ≤ l.length) (fun k => l.length - k) 0 (Nat.zero_le _) (by ((first | refine qen ?_ | refine qvs ?_ | refine qeq ?_ | refine qst ?_ | refine qv ?_ | refine qc ?_ | refine qe ?_ | refine qcs ?_ | skip); (repeat' first | exact rfl | (refine qS ?_; constructor)))) ?_
  intro k hk
  have hb := vaP_bd h hl k hk
  refine Fork.dec (fun hlt => ?_) (fun hlt => ?_)
  · have hlt : k < l.length := by omega
    have h1 := hl k hlt
    have h2 := (h.t (l.getD k 0).toNat (by omega)).v
    (repeat' first | (refine Owe.same ?_; first | refine Owe.o ?_ | refine Owe.mk ?_ ?_) | (refine Fork.same ?_; (first | refine fkD ?_ ?_ | refine fkN ?_ ?_ | refine fkM ?_ ?_) <;> intro h) | refine MvQ.stay ?_)
    exact again0 (k + 1) hlt (by omega) (by ((first | refine qen ?_ | refine qvs ?_ | refine qeq ?_ | refine qst ?_ | refine qv ?_ | refine qc ?_ | refine qe ?_ | refine qcs ?_ | skip); (repeat' first | exact rfl | (refine qS ?_; constructor))))
  · obtain rfl : k = l.length := by omega
    (repeat' first | (refine Owe.same ?_; first | refine Owe.o ?_ | refine Owe.mk ?_ ?_) | (refine Fork.same ?_; (first | refine fkD ?_ ?_ | refine fkN ?_ ?_ | refine fkM ?_ ?_) <;> intro h) | refine MvQ.stay ?_)
    (refine rqK rfl ?_; (repeat' first | exact rfl | (refine qS ?_; constructor)))
def orE (s : Si) (t : St8) : Int := if onE s t = 0 then (if reB s t = true then 0 else 24) else onE s t
theorem C141 {s : Si} {t : St8} : (SiSm s ∧ t.d.length ≤ 1000000) → PFD Tryz.prog 141 [siv s, stv t] (.tup [div s t, vi .i64 (orE s t)]) := fun hs => by
  have c1 := C156 hs
  obtain ⟨q, hq⟩ : ∃ q, q = orE s t := ⟨_, rfl⟩
  rw [← hq]
  rw [orE] at hq
  by_cases h0 : onE s t = 0
  · have c2 := C165 (OnOk.of h0).b
    rw [if_pos h0] at hq
    generalize reB s t = r at *
    refine pi2 fn141 ?_
    (repeat' first | (refine Owe.same ?_; first | refine Owe.o ?_ | refine Owe.mk ?_ ?_) | (refine Fork.same ?_; (first | refine fkD ?_ ?_ | refine fkN ?_ ?_ | refine fkM ?_ ?_) <;> intro h) | ((first | refine OpsL.same ?_ | refine OpsDL.same ?_); first | refine pK c1 rfl rfl ?_ | refine pK c2 rfl rfl ?_) | refine MvQ.stay ?_)
    · have h : r = false := by simpa using h
      subst h
      subst hq
      (refine rqK rfl ?_; (repeat' first | exact rfl | (refine qS ?_; constructor)))
    · have h : r = true := by simpa using h
      subst h
      subst hq
      (refine rqK rfl ?_; (repeat' first | exact rfl | (refine qS ?_; constructor)))
      exact h0
    · exact absurd h0 h
  · rw [if_neg h0] at hq
    subst hq
    refine pi2 fn141 ?_
    (repeat' first | (refine Owe.same ?_; first | refine Owe.o ?_ | refine Owe.mk ?_ ?_) | (refine Fork.same ?_; (first | refine fkD ?_ ?_ | refine fkN ?_ ?_ | refine fkM ?_ ?_) <;> intro h) | ((first | refine OpsL.same ?_ | refine OpsDL.same ?_); first | refine pK c1 rfl rfl ?_) | refine MvQ.stay ?_)
    all_goals first
      | exact absurd ‹onE s t = 0› h0
      | (refine rqK rfl ?_; (repeat' first | exact rfl | (refine qS ?_; constructor)))
end Go.Pw
set_option linter.unusedSimpArgs false
set_option linter.unusedVariables false
set_option maxHeartbeats 4000000
namespace Go.Pw
set_option maxRecDepth 2000
open Go Go.Proofs A1 A2 A3 A4
def updP (s : Si) (p : List Int) (b : List Int × Int) : List Int × Int := if b.2 < vaI s p then (p, vaI s p) else b
mutual
/-- The best plan of those that begin with a plan, so many further tasks at most. -/
def grwF (s : Si) : Nat → St8 → List Int → List Int × Int → List Int × Int
  | 0, _, p, b => updP s p b
  | f + 1, t, p, b => grwK s f t p (updP s p b) s.tk.length
/-- .. of which the next task is one of the first ones. -/
def grwK (s : Si) (f : Nat) (t : St8) (p : List Int) (b : List Int × Int) : Nat → List Int × Int
  | 0 => b
  | k + 1 => if spE s t k = 0 then grwF s f (spS s t k) (p ++ [(k : Int)]) (grwK s f t p b k) else grwK s f t p b k
end
section
variable {P : Program} {N base : Nat}
theorem OpsDL.cm [m : Mix P] {M : List Nat} {acc : List (Bool × List Nat)} {dst : Option Nat} {fop : Operand} {xs : List Operand} {g : Option (Nat × Bool)} {rest : List LIns} {env : List (Nat × V)} {σ : Store} (σ0 σ1 : Store) {nx hi : Nat} {K : St → Prop} {f : FuncId} {ids : List Nat} {args : List V} {v : V}
    (hc : CallD P f args σ0 nx v σ1 hi) (hs : Sub σ0 σ) (hf : evo env fop = .c (.fn f ids)) (hg : guardOf env g = .run) (ha : RIs (xs.map (evo env) ++ ids.map fun k => .c (.bp k 0)) args)
    (h : putK dst v env fun env' => frS (app σ0 σ1 σ) fun σ' => frNat hi fun hi' => wpD P N base M rest env' σ' hi' none ((false, dom σ0 ++ dom σ1) :: acc) K) : OpsDL P N base M (⟨dst, .call fop xs, g⟩ :: rest) ⟨env, σ, nx⟩ acc K := by
  rw [putK_eq, frS_eq, frNat_eq] at h
  exact ⟨OpsD.call (k := 0) (ks := []) (i := ⟨dst, .call fop xs, g⟩) (st := ⟨env, σ, nx⟩) hg rfl hf ha hc hs (OpsD.wp h)⟩
theorem OpsL.cmi [m : Mix P] {dst : Option Nat} {fop : Operand} {xs : List Operand} {g : Option (Nat × Bool)} {rest : List LIns} {env : List (Nat × V)} {σ : Store} (σ0 σ1 : Store) {nx hi : Nat} {K : St → Prop} {f : FuncId} {ids : List Nat} {args : List V} {v : V}
    (hc : CallD P f args σ0 nx v σ1 hi) (hs : Sub σ0 σ) (hf : evo env fop = .c (.fn f ids)) (hg : guardOf env g = .run) (ha : RIs (xs.map (evo env) ++ ids.map fun k => .c (.bp k 0)) args)
    (h : putK dst v env fun env' => frS (app σ0 σ1 σ) fun σ' => frNat hi fun hi' => wpOps P N base rest env' σ' hi' none K) : OpsL P N base (⟨dst, .call fop xs, g⟩ :: rest) ⟨env, σ, nx⟩ K := by
  rw [putK_eq, frS_eq, frNat_eq] at h
  exact ⟨Ops.call (i := ⟨dst, .call fop xs, g⟩) (st := ⟨env, σ, nx⟩) hg rfl hf ha hc hs (Ops.wp h)⟩
end
theorem sub_cons {σ τ : Store} {a : Nat} {e : Ent} (h1 : get σ a = some e) (h2 : Sub τ σ) : Sub ((a, e) :: τ) σ := fun id x h => by
  by_cases ha : a = id
  · subst ha; rw [get_here] at h; rw [h1]; exact h
  · rw [get_next ha] at h; exact h2 id x h
abbrev gsto (s : Si) (t0 : St8) (b : List Int × Int) : Store :=
  [(6, .box [.fn 263 [5, 3, 6]]), (5, .box [.yd 4]), (4, .lp [(2, .c (.rp (diD s t0))), (6, .c (.bp 0 0)), (7, .c (.bp 1 0)), (12, .c (.fn 262 [3, 2]))] .ready none (RR Tryz.prog 26 [13] ra142 rb142)), (3, .box [.fn 143 []]), (1, .box [int b.2]), (0, .box [ints b.1])]
theorem tkNs_app {s : Si} {p : List Int} {n : Int} (hp : tkNs s p) (hn : 0 ≤ n ∧ n < s.tk.length) : tkNs s (p ++ [n]) := fun k hk => by
  rw [List.length_append] at hk
  have hk : k < p.length + 1 := hk
  rcases Nat.lt_or_ge k p.length with h | h
  · rw [List.getD_eq_getElem?_getD, List.getElem?_append_left h, ← List.getD_eq_getElem?_getD]; exact hp k h
  · obtain rfl : k = p.length := by omega
    rw [List.getD_eq_getElem?_getD, List.getElem?_append_right (Nat.le_refl _), Nat.sub_self]; exact hn
theorem G120 {s : Si} {t0 : St8} (hO : SiOk s) (hs : TkSm s.tk) (hst : ∀ {t : St8} {k : Nat}, OnOk s t → spE s t k = 0 → OnOk s (spS s t k) ∧ (spS s t k).d.length = t.d.length + 1) (hd : ∀ {t : St8}, OnOk s t → t.d.length ≤ s.tk.length) :
    ∀ (f : Nat) (t : St8) (p : List Int) (b : List Int × Int), OnOk s t → s.tk.length + 1 ≤ f + t.d.length → tkNs s p → p.length + s.tk.length ≤ 100 + t.d.length →
      CallD Tryz.prog 263 [div s t, .c (ints p), .c (.bp 5 0), .c (.bp 3 0), .c (.bp 6 0)] (gsto s t0 b) 7 (.c .tru) (gsto s t0 (grwF s f t p b)) 7
  | 0, t, p, b, h, hf, _, _ => by have := hd h; omega
  | f + 1, t, p, b, h, hf, hp, hl => by
    have h6 := hO.n
    have hdl := hd h
    have HO := h
    have c1 := C163 (s := s) (l := p) ⟨hO, hp, by omega⟩
    refine CallD.of (vs := [.c .tru]) fn263m rfl rfl (by (refine qis ?_ ?_ <;> (repeat' first | exact rfl | (refine qS ?_; constructor)))) ?_
    refine Ops.yd rfl rfl rfl rfl rfl ?_
    (repeat' first | (refine Owe.same ?_; first | refine Owe.o ?_ | refine Owe.mk ?_ ?_) | (refine Fork.same ?_; (first | refine fkD ?_ ?_ | refine fkN ?_ ?_ | refine fkM ?_ ?_) <;> intro h) | refine MvQ.stay ?_)
    refine And.intro rfl (Exists.intro _ (And.intro rfl ?_))
    (repeat' first | (refine Owe.same ?_; first | refine Owe.o ?_ | refine Owe.mk ?_ ?_) | (refine Fork.same ?_; (first | refine fkD ?_ ?_ | refine fkN ?_ ?_ | refine fkM ?_ ?_) <;> intro h) | ((first | refine OpsL.same ?_ | refine OpsDL.same ?_); first | refine pK c1 rfl rfl ?_ | refine pK (C164d (l := p) (by omega)) rfl rfl ?_) | refine MvQ.stay ?_)
    · rename_i h0
      have e : updP s p b = (p, vaI s p) := if_pos h
      refine Exists.intro _ (Exists.intro _ (Exists.intro _ (And.intro rfl ?_)))
      (repeat' first | (refine Owe.same ?_; first | refine Owe.o ?_ | refine Owe.mk ?_ ?_) | (refine Fork.same ?_; (first | refine fkD ?_ ?_ | refine fkN ?_ ?_ | refine fkM ?_ ?_) <;> intro h) | refine MvQ.stay ?_)
      refine Sat.lp (fun ((k, B) : Nat × List Int × Int) => ⟨[(19, vi .i64 k), (18, vi .i64 s.tk.length), (5, .c (.rp (diD s t))), (1, .c (ints p)), (2, .c (.bp 5 0)), (3, .c (.bp 3 0)), (4, .c (.bp 6 0))], gsto s t0 B, 7⟩) (fun ((k, B) : Nat × List Int × Int) => k ≤ s.tk.length ∧ B = grwK s f t p (p, vaI s p) k) (fun ((k, _) : Nat × List Int × Int) => s.tk.length - k) (0, (p, vaI s p)) [] ⟨Nat.zero_le _, by rw [grwK]⟩ ?_ ?_
      · (refine qis ?_ ?_ <;> (repeat' first | exact rfl | (refine qS ?_; constructor)))
      · intro ⟨k, B⟩ ⟨hk, hB⟩
        refine Fork.dec (fun hlt => ?_) (fun hlt => ?_)
        · have hlt : k < s.tk.length := by omega
          have c2 := C196 (s := s) (t := t) (n := (k : Int)) ⟨HO, by omega, hs⟩
          obtain ⟨E, hE⟩ : ∃ E, E = spE s t (k : Int) := ⟨_, rfl⟩
          rw [← hE] at c2
          have c3 := C264 (l := p) (by omega)
          (repeat' first | (refine Owe.same ?_; first | refine Owe.o ?_ | refine Owe.mk ?_ ?_) | (refine Fork.same ?_; (first | refine fkD ?_ ?_ | refine fkN ?_ ?_ | refine fkM ?_ ?_) <;> intro h) | ((first | refine OpsL.same ?_ | refine OpsDL.same ?_); first | refine pK C143 rfl rfl ?_ | refine pK c2 rfl rfl ?_ | refine pK c3 rfl rfl ?_) | refine MvQ.stay ?_)
          · exact absurd h (by decide)
          · have hz : spE s t (k : Int) = 0 := hE.symm.trans h
            have h1 := hst HO hz
            have h2 : tkNs s (p ++ [(k : Int)]) := tkNs_app hp ⟨by omega, by omega⟩
            refine OpsDL.cm (gsto s t0 B) _ ((G120 hO hs hst hd f (spS s t k) (p ++ [(k : Int)]) B h1.1 (by omega) h2 (by rw [List.length_append]; show p.length + 1 + _ ≤ _; omega)).at _) (sub_cons rfl (sub_cons rfl (sub_cons rfl (sub_cons rfl (sub_cons rfl (sub_cons rfl sub_nil)))))) rfl rfl ?_ ?_
            · refine VEqs.ris (qvs ?_)
              (repeat' first | exact rfl | (refine qS ?_; constructor))
              exact ⟨_, rfl, rfl⟩
            · (repeat' first | (refine Owe.same ?_; first | refine Owe.o ?_ | refine Owe.mk ?_ ?_) | (refine Fork.same ?_; (first | refine fkD ?_ ?_ | refine fkN ?_ ?_ | refine fkM ?_ ?_) <;> intro h) | refine MvQ.stay ?_)
              have hB2 : grwF s f (spS s t k) (p ++ [(k : Int)]) B = grwK s f t p (p, vaI s p) (k + 1) := by rw [grwK, if_pos hz, ← hB]
              refine again (k + 1, _) [] ⟨hlt, hB2⟩ (by show s.tk.length - (k + 1) < s.tk.length - k; omega) ?_
              (refine qis ?_ ?_ <;> (repeat' first | exact rfl | (refine qS ?_; constructor)))
          · have hB2 : B = grwK s f t p (p, vaI s p) (k + 1) := by rw [grwK, if_neg (fun hh => h (hE.trans hh)), ← hB]
            refine again (k + 1, B) [] ⟨hlt, hB2⟩ (by show s.tk.length - (k + 1) < s.tk.length - k; omega) ?_
            (refine qis ?_ ?_ <;> (repeat' first | exact rfl | (refine qS ?_; constructor)))
        · have hkk : k = s.tk.length := by omega
          have hfin : grwF s (f + 1) t p b = B := by rw [grwF, e, ← hkk, hB]
          rw [hfin]
          (repeat' first | (refine Owe.same ?_; first | refine Owe.o ?_ | refine Owe.mk ?_ ?_) | (refine Fork.same ?_; (first | refine fkD ?_ ?_ | refine fkN ?_ ?_ | refine fkM ?_ ?_) <;> intro h) | refine MvQ.stay ?_)
          exact RetQ.is rfl
    · have e : updP s p b = b := if_neg h
      refine Exists.intro _ (Exists.intro _ (Exists.intro _ (And.intro rfl ?_)))
      (repeat' first | (refine Owe.same ?_; first | refine Owe.o ?_ | refine Owe.mk ?_ ?_) | (refine Fork.same ?_; (first | refine fkD ?_ ?_ | refine fkN ?_ ?_ | refine fkM ?_ ?_) <;> intro h) | refine MvQ.stay ?_)
      refine Sat.lp (fun ((k, B) : Nat × List Int × Int) => ⟨[(19, vi .i64 k), (18, vi .i64 s.tk.length), (5, .c (.rp (diD s t))), (1, .c (ints p)), (2, .c (.bp 5 0)), (3, .c (.bp 3 0)), (4, .c (.bp 6 0))], gsto s t0 B, 7⟩) (fun ((k, B) : Nat × List Int × Int) => k ≤ s.tk.length ∧ B = grwK s f t p b k) (fun ((k, _) : Nat × List Int × Int) => s.tk.length - k) (0, b) [] ⟨Nat.zero_le _, by rw [grwK]⟩ ?_ ?_
      · (refine qis ?_ ?_ <;> (repeat' first | exact rfl | (refine qS ?_; constructor)))
      · intro ⟨k, B⟩ ⟨hk, hB⟩
        refine Fork.dec (fun hlt => ?_) (fun hlt => ?_)
        · have hlt : k < s.tk.length := by omega
          have c2 := C196 (s := s) (t := t) (n := (k : Int)) ⟨HO, by omega, hs⟩
          obtain ⟨E, hE⟩ : ∃ E, E = spE s t (k : Int) := ⟨_, rfl⟩
          rw [← hE] at c2
          have c3 := C264 (l := p) (by omega)
          (repeat' first | (refine Owe.same ?_; first | refine Owe.o ?_ | refine Owe.mk ?_ ?_) | (refine Fork.same ?_; (first | refine fkD ?_ ?_ | refine fkN ?_ ?_ | refine fkM ?_ ?_) <;> intro h) | ((first | refine OpsL.same ?_ | refine OpsDL.same ?_); first | refine pK C143 rfl rfl ?_ | refine pK c2 rfl rfl ?_ | refine pK c3 rfl rfl ?_) | refine MvQ.stay ?_)
          · exact absurd h (by decide)
          · have hz : spE s t (k : Int) = 0 := hE.symm.trans h
            have h1 := hst HO hz
            have h2 : tkNs s (p ++ [(k : Int)]) := tkNs_app hp ⟨by omega, by omega⟩
            refine OpsDL.cm (gsto s t0 B) _ ((G120 hO hs hst hd f (spS s t k) (p ++ [(k : Int)]) B h1.1 (by omega) h2 (by rw [List.length_append]; show p.length + 1 + _ ≤ _; omega)).at _) (sub_cons rfl (sub_cons rfl (sub_cons rfl (sub_cons rfl (sub_cons rfl (sub_cons rfl sub_nil)))))) rfl rfl ?_ ?_
            · refine VEqs.ris (qvs ?_)
              (repeat' first | exact rfl | (refine qS ?_; constructor))
              exact ⟨_, rfl, rfl⟩
            · (repeat' first | (refine Owe.same ?_; first | refine Owe.o ?_ | refine Owe.mk ?_ ?_) | (refine Fork.same ?_; (first | refine fkD ?_ ?_ | refine fkN ?_ ?_ | refine fkM ?_ ?_) <;> intro h) | refine MvQ.stay ?_)
              have hB2 : grwF s f (spS s t k) (p ++ [(k : Int)]) B = grwK s f t p b (k + 1) := by rw [grwK, if_pos hz, ← hB]
              refine again (k + 1, _) [] ⟨hlt, hB2⟩ (by show s.tk.length - (k + 1) < s.tk.length - k; omega) ?_
              (refine qis ?_ ?_ <;> (repeat' first | exact rfl | (refine qS ?_; constructor)))
          · have hB2 : B = grwK s f t p b (k + 1) := by rw [grwK, if_neg (fun hh => h (hE.trans hh)), ← hB]
            refine again (k + 1, B) [] ⟨hlt, hB2⟩ (by show s.tk.length - (k + 1) < s.tk.length - k; omega) ?_
            (refine qis ?_ ?_ <;> (repeat' first | exact rfl | (refine qS ?_; constructor)))
        · have hkk : k = s.tk.length := by omega
          have hfin : grwF s (f + 1) t p b = B := by rw [grwF, e, ← hkk, hB]
          rw [hfin]
          (repeat' first | (refine Owe.same ?_; first | refine Owe.o ?_ | refine Owe.mk ?_ ?_) | (refine Fork.same ?_; (first | refine fkD ?_ ?_ | refine fkN ?_ ?_ | refine fkM ?_ ?_) <;> intro h) | refine MvQ.stay ?_)
          exact RetQ.is rfl
theorem Srt.ge {l : List Int} (h : Srt l) (h0 : ∀ i, i < l.length → 0 ≤ l.getD i 0) : ∀ i, i < l.length → (i : Int) ≤ l.getD i 0
  | 0, hi => h0 0 hi
  | i + 1, hi => by
    have := Srt.ge h h0 i (by omega)
    have := h i hi
    omega
theorem OnOk.dl {s : Si} {t : St8} (h : OnOk s t) : t.d.length ≤ s.tk.length := by
  obtain ⟨h1, h2⟩ := Srt.of h.d
  rcases Nat.eq_zero_or_pos t.d.length with h0 | h0
  · omega
  · have := h1.ge (fun i hi => (h2 i hi).1) (t.d.length - 1) (by omega)
    have := (h2 (t.d.length - 1) (by omega)).2
    omega
theorem Srt.to {l : List Int} {b : Int} (h : Srt l) (h2 : ∀ i, i < l.length → 0 ≤ l.getD i 0 ∧ l.getD i 0 ≤ b - 1) : (ascE l b).2 = 0 := by
  rw [ascE, eachN_ok]
  intro i hi
  rw [ascN, fst2, unl0 (by decide), unl0 (by decide)]
  refine ⟨h2 i hi, ?_⟩
  rw [lastI]
  split
  · have := (h2 i hi).1; omega
  · have := h (i - 1) (by omega)
    rwa [show i - 1 + 1 = i by omega] at this
theorem insI_srt {l : List Int} {x : Int} (h : Srt l) (hx : x ∉ l) : Srt (insI l (bsI x l) x) := fun i hi => by
  have hle := bsI_le x l
  rw [insI_len hle] at hi
  rw [insI_get hle, insI_get hle]
  rcases Nat.lt_trichotomy (i + 1) (bsI x l) with h1 | h1 | h1
  · rw [if_pos (by omega), if_pos h1]; exact h i (by omega)
  · rw [if_pos (by omega), if_neg (by omega), if_pos h1]; exact bsI_lt x (by omega)
  · rcases Nat.eq_or_lt_of_le (show bsI x l ≤ i by omega) with h2 | h2
    · rw [if_neg (by omega), if_pos h2.symm, if_neg (by omega), if_neg (by omega), Nat.add_sub_cancel]
      have h3 := bsI_ge x h (Nat.le_of_eq h2) (by omega)
      have h4 : l.getD i 0 ≠ x := fun e => hx (e ▸ getD_mem 0 (by omega))
      omega
    · rw [if_neg (by omega), if_neg (by omega), if_neg (by omega), if_neg (by omega), Nat.add_sub_cancel]
      have := h (i - 1) (by omega)
      rwa [show i - 1 + 1 = i by omega] at this
theorem insI_bd {l : List Int} {x b : Int} {k : Nat} (hk : k ≤ l.length) (h2 : ∀ i, i < l.length → 0 ≤ l.getD i 0 ∧ l.getD i 0 ≤ b) (hx : 0 ≤ x ∧ x ≤ b) : ∀ i, i < (insI l k x).length → 0 ≤ (insI l k x).getD i 0 ∧ (insI l k x).getD i 0 ≤ b := fun i hi => by
  rw [insI_len hk] at hi
  rw [insI_get hk]
  split
  · exact h2 i (by omega)
  · split
    · exact hx
    · exact h2 (i - 1) (by omega)
theorem spS_ok {s : Si} {t : St8} {n : Int} (h : OnOk s t) (he : spE s t n = 0) : (spS s t n = nxS s t n ∧ nxE s t n = 0 ∧ spF s t n = 0 ∧ 0 ≤ n ∧ n < s.tk.length) ∧ OnOk s (nxS s t n) ∧ (nxS s t n).d.length = t.d.length + 1 := by
  rw [spE] at he
  split at he
  · rename_i hw
    have hn := of_decide_eq_true hw
    split at he
    · rename_i hf
      have e1 : spS s t n = nxS s t n := by rw [spS, if_pos hw, if_pos hf]
      refine ⟨⟨e1, he, hf, hn.1, by omega⟩, ?_, ?_⟩
      · rw [nxE, nxF, fst3, unl0 (by decide), unl0 (by decide), unb_ok (by decide)] at he
        obtain ⟨a1, a2, a3⟩ := he
        have hB := (h.ok.t n.toNat (by omega)).b
        have hsw := trT_bd (p := (tkA s n).p) h
        have hD := nxT_b (n := n) h hB hsw
        have hm := hmT_bd hD
        have hr := of_decide_eq_true a3
        have h2 := h.tm
        have h3 := h.en
        have h4 := h.ok.e
        have h5 := h.oil
        rw [spF, fst2, unb_ok (by decide), unb_ok (by decide)] at hf
        have hx : n ∉ t.d := by simpa using hf.1
        have m1 : 0 ≤ hmT s (nxS s t n) * s.swim := Int.mul_nonneg hm.1 (by omega)
        obtain ⟨b5, b6, b7, b8, b9, b10⟩ := hB
        have m2 : 0 ≤ trT s t (tkA s n).p * s.swim := Int.mul_nonneg hsw.1 (by omega)
        have m3 : 0 ≤ (max (t.t + trT s t (tkA s n).p) (tkA s n).lo - (t.t + trT s t (tkA s n).p)) * s.idle := Int.mul_nonneg (by omega) (by omega)
        have hle := bsI_le n t.d
        obtain ⟨s1, s2⟩ := Srt.of h.d
        refine ⟨h.ok, hD.pl, ?_, ?_, ?_, ?_⟩
        · have : (nxS s t n).t = max (t.t + trT s t (tkA s n).p) (tkA s n).lo + (tkA s n).d := rfl
          have key : (nxS s t n).t + hmT s (nxS s t n) ≤ s.fin := hr.2
          have hm0 : 0 ≤ hmT s (nxS s t n) := hm.1
          generalize hmT s (nxS s t n) = H at key hm0
          rw [this] at key ⊢
          clear hr hm hD a3 a2
          simp only [tkA] at *
          omega
        · have : (nxS s t n).w = t.w - (trT s t (tkA s n).p * s.swim + (max (t.t + trT s t (tkA s n).p) (tkA s n).lo - (t.t + trT s t (tkA s n).p)) * s.idle + (tkA s n).w) := rfl
          have key : s.res ≤ (nxS s t n).w - hmT s (nxS s t n) * s.swim := hr.1
          generalize hmT s (nxS s t n) * s.swim = H at key m1
          rw [this] at key ⊢
          clear hr hm hD a3 a2
          simp only [tkA] at *
          omega
        · have : (nxS s t n).o = t.o - (tkA s n).o := rfl
          have key : 0 ≤ (nxS s t n).o := a2
          rw [this] at key ⊢
          clear hr hm hD a3 a2
          simp only [tkA] at *
          omega
        · exact (insI_srt s1 hx).to (insI_bd hle s2 (by omega))
      · exact insI_len (bsI_le n t.d)
    · rename_i hf; exact absurd he hf
  · cases he
theorem nmAt7 : nmAt 5 [5, 6] = id := by
  funext i
  match i with
  | 0 => rfl
  | 1 => rfl
  | 2 => rfl
  | 3 => rfl
  | 4 => rfl
  | 5 => rfl
  | 6 => rfl
  | n + 7 => rfl
theorem OpsL.is7 {P : Program} [Mix P] {N : Nat} {ops : List LIns} {K : St → Prop} {st : St} (st0 : St) (h : Is 5 st st0 [5, 6]) (k : OpsL P N 5 ops st0 K) : OpsL P N 5 ops st K := by
  have := h.wk
  rw [nmAt7] at this
  exact ⟨Ops.from (Mv.weaken this) k.h⟩
abbrev bestP (s : Si) (t : St8) : List Int × Int := grwF s (s.tk.length + 1) t [] ([], 0)
theorem C142 {s : Si} {t : St8} : (OnOk s t ∧ TkSm s.tk) → PFD Tryz.prog 142 [div s t, .c (.fn 143 [])] (.tup [.c (ints (bestP s t).1), vi .i64 (bestP s t).2]) := fun ⟨h, hs⟩ => by
  have h6 := h.ok.n
  have g := G120 (t0 := t) h.ok hs (fun {t' k} h1 h2 => by
    obtain ⟨⟨e, _⟩, h3, h4⟩ := spS_ok h1 h2
    rw [e]; exact ⟨h3, h4⟩) (fun h => h.dl) (s.tk.length + 1) t [] ([], 0) h (by omega) (fun k hk => by cases hk) (by show 0 + _ ≤ _; omega)
  obtain ⟨B, hB⟩ : ∃ B, B = bestP s t := ⟨_, rfl⟩
  change CallD _ _ _ _ _ _ (gsto s t (bestP s t)) _ at g
  rw [← hB] at g ⊢
  refine pi2 fn142 ?_
  (repeat' first | (refine Owe.same ?_; first | refine Owe.o ?_ | refine Owe.mk ?_ ?_) | (refine Fork.same ?_; (first | refine fkD ?_ ?_ | refine fkN ?_ ?_ | refine fkM ?_ ?_) <;> intro h) | refine MvQ.stay ?_)
  refine Ops.cs rfl rfl (CallS.of fn218 rfl ?_)
  (repeat' first | (refine Owe.same ?_; first | refine Owe.o ?_ | refine Owe.mk ?_ ?_) | (refine Fork.same ?_; (first | refine fkD ?_ ?_ | refine fkN ?_ ?_ | refine fkM ?_ ?_) <;> intro h) | refine MvQ.stay ?_)
  refine Sat.keep [2, 6, 7, 12] ?_
  refine Sat.rf rfl rfl (CallS.of fn262 rfl ?_)
  (repeat' first | (refine Owe.same ?_; first | refine Owe.o ?_ | refine Owe.mk ?_ ?_) | (refine Fork.same ?_; (first | refine fkD ?_ ?_ | refine fkN ?_ ?_ | refine fkM ?_ ?_) <;> intro h) | refine MvQ.stay ?_)
  refine OpsL.is7 (⟨[(6, .c (.fn 263 [5, 3, 6])), (7, div s t)], [(6, .box [.fn 263 [5, 3, 6]]), (5, .box [.yd 4]), (4, .lp [(2, .c (.rp (diD s t))), (6, .c (.bp 0 0)), (7, .c (.bp 1 0)), (12, .c (.fn 262 [3, 2]))] .ready none (RR Tryz.prog 26 [13] ra142 rb142)), (3, .box [.fn 143 []]), (2, .box (diC s t)), (1, .box [int 0]), (0, .box [ints []])], 7⟩) ?_ ?_
  · (refine qis ?_ ?_ <;> (repeat' first | exact rfl | (refine qS ?_; constructor)))
  refine OpsL.cmi (gsto s t ([], 0)) _ (g.at _) (sub_cons rfl (sub_cons rfl (sub_cons rfl (sub_cons rfl (sub_cons rfl (sub_cons rfl sub_nil)))))) rfl rfl ?_ ?_
  · refine VEqs.ris (qvs ?_)
    (repeat' first | exact rfl | (refine qS ?_; constructor))
  · (repeat' first | (refine Owe.same ?_; first | refine Owe.o ?_ | refine Owe.mk ?_ ?_) | (refine Fork.same ?_; (first | refine fkD ?_ ?_ | refine fkN ?_ ?_ | refine fkM ?_ ?_) <;> intro h) | refine MvQ.stay ?_)
    (refine rqK rfl ?_; (repeat' first | exact rfl | (refine qS ?_; constructor)))
theorem C64 {s : Si} {t : St8} : (SiSm s ∧ t.d.length ≤ 1000) → PFD Tryz.prog 64 [siv s, stv t] (.tup [.c (ints (if orE s t = 0 then (bestP s t).1 else [])), vi .i64 (if orE s t = 0 then (bestP s t).2 else 0), vi .i64 (orE s t)]) := fun ⟨hs, hd⟩ => by
  have c1 := C141 (s := s) (t := t) ⟨hs, by omega⟩
  by_cases h0 : orE s t = 0
  · have hO : onE s t = 0 := by
      rw [orE] at h0
      split at h0
      · assumption
      · rename_i h; exact absurd h0 h
    have c2 := C142 (s := s) (t := t) ⟨OnOk.of hO, hs.t⟩
    rw [if_pos h0, if_pos h0]
    generalize bestP s t = B at *
    refine pi3 fn64 ?_
    (repeat' first | (refine Owe.same ?_; first | refine Owe.o ?_ | refine Owe.mk ?_ ?_) | (refine Fork.same ?_; (first | refine fkD ?_ ?_ | refine fkN ?_ ?_ | refine fkM ?_ ?_) <;> intro h) | ((first | refine OpsL.same ?_ | refine OpsDL.same ?_); first | refine pK c1 rfl rfl ?_) | refine MvQ.stay ?_)
    · exact absurd h0 h
    · (repeat' first | (refine Owe.same ?_; first | refine Owe.o ?_ | refine Owe.mk ?_ ?_) | (refine Fork.same ?_; (first | refine fkD ?_ ?_ | refine fkN ?_ ?_ | refine fkM ?_ ?_) <;> intro h) | ((first | refine OpsL.same ?_ | refine OpsDL.same ?_); first | refine pK c2 rfl rfl ?_) | refine MvQ.stay ?_)
      (refine rqK rfl ?_; (repeat' first | exact rfl | (refine qS ?_; constructor)))
      exact h0.symm
  · rw [if_neg h0, if_neg h0]
    refine pi3 fn64 ?_
    (repeat' first | (refine Owe.same ?_; first | refine Owe.o ?_ | refine Owe.mk ?_ ?_) | (refine Fork.same ?_; (first | refine fkD ?_ ?_ | refine fkN ?_ ?_ | refine fkM ?_ ?_) <;> intro h) | ((first | refine OpsL.same ?_ | refine OpsDL.same ?_); first | refine pK c1 rfl rfl ?_) | refine MvQ.stay ?_)
    · (refine rqK rfl ?_; (repeat' first | exact rfl | (refine qS ?_; constructor)))
    · exact absurd h h0
end Go.Pw
set_option linter.unusedSimpArgs false
set_option linter.unusedVariables false
set_option maxHeartbeats 4000000
namespace Go.Pw
set_option maxRecDepth 2000
open Go Go.Proofs A1 A2 A3 A4
end Go.Pw

set_option linter.unusedSimpArgs false
set_option linter.unusedVariables false
set_option maxHeartbeats 1000000
namespace Go.Pw
set_option maxRecDepth 2000
open Go Go.Proofs A1 A2 A3 A4
end Go.Pw

set_option linter.unusedSimpArgs false
set_option linter.unusedVariables false
set_option maxHeartbeats 4000000
namespace Go.Pw
set_option maxRecDepth 2000
open Go Go.Proofs A1 A2 A3 A4
theorem insI_mem {l : List Int} {i : Nat} {x y : Int} : y ∈ insI l i x ↔ y = x ∨ y ∈ l := by
  rw [insI, List.mem_append, List.mem_cons]
  conv => rhs; rw [← List.take_append_drop i l, List.mem_append]
  constructor
  · rintro (h | h | h)
    · exact .inr (.inl h)
    · exact .inl h
    · exact .inr (.inr h)
  · rintro (h | h | h)
    · exact .inr (.inl h)
    · exact .inl h
    · exact .inr (.inr h)
structure SetOk (s : Si) (t : St8) (l : List Int) : Prop where
  n : tkNs s l
  u : l.Nodup
  d : ∀ x ∈ l, x ∉ t.d
theorem SetOk.len {s : Si} {t : St8} {l : List Int} (h : SetOk s t l) : l.length ≤ s.tk.length := by
  have : ∀ (N : Nat) (K : List Int), K.Nodup → (∀ a ∈ K, 0 ≤ a ∧ a < N) → K.length ≤ N := fun N => by
    induction N with
    | zero =>
      intro K _ hb
      have : K = [] := List.eq_nil_iff_forall_not_mem.2 fun a ha => by have := hb a ha; omega
      subst this; exact Nat.le_refl _
    | succ N ih =>
      intro K hn hb
      by_cases hm : (N : Int) ∈ K
      · have hl := List.length_erase_of_mem hm
        have hpos : 0 < K.length := List.length_pos_of_mem hm
        have := ih (K.erase (N : Int)) (hn.erase _) (fun a ha => by
          have h1 := (hn.mem_erase_iff).1 ha
          have := hb a h1.2
          have := h1.1
          omega)
        omega
      · have := ih K hn (fun a ha => by
          have := hb a ha
          have : a ≠ N := fun h => hm (h ▸ ha)
          omega)
        omega
  refine this _ l h.u fun a ha => ?_
  obtain ⟨j, hj, e⟩ := List.getElem_of_mem ha
  have := h.n j hj
  rw [List.getD_eq_getElem?_getD, List.getElem?_eq_getElem hj] at this
  rw [← e]; exact this
theorem C216 {s : Si} {n : Int} : s.tk.length ≤ 1000000 → PFD Tryz.prog 216 [siv s, vi .i64 n] (vbl (wi n 0 ((s.tk.length : Int) - 1))) := fun hs => by
  refine pi1 fn216 ?_
  (repeat' first | (refine Owe.same ?_; first | refine Owe.o ?_ | refine Owe.mk ?_ ?_) | (refine Fork.same ?_; (first | refine fkD ?_ ?_ | refine fkN ?_ ?_ | refine fkM ?_ ?_) <;> intro h) | ((first | refine OpsL.same ?_ | refine OpsDL.same ?_); first | refine pK C46 rfl rfl ?_) | refine MvQ.stay ?_)
  (refine rqK rfl ?_; (repeat' first | exact rfl | (refine qS ?_; constructor)))
abbrev fewT (l : List Tk) : Prop := (l.length : Int) ≤ 8 ∧ ∀ i, i < l.length → ((l.getD i tk0).n.size : Int) ≤ 20 ∧ ((l.getD i tk0).a.length : Int) ≤ 8
theorem C25 {l : List Tk} : PFD Tryz.prog 25 [.c (tks l)] (vbl (decide (fewT l))) := by
  refine pi1 fn25 ?_
  (repeat' first | (refine Owe.same ?_; first | refine Owe.o ?_ | refine Owe.mk ?_ ?_) | (refine Fork.same ?_; (first | refine fkD ?_ ?_ | refine fkN ?_ ?_ | refine fkM ?_ ?_) <;> intro h) | refine MvQ.stay ?_)
  · (refine rqK rfl ?_; (repeat' first | exact rfl | (refine qS ?_; constructor))); simp only [decide_eq_false_iff_not]; intro hh; exact absurd hh.1 (by omega)
  · have h8 : l.length ≤ 8 := by omega
    clear h
    refine Sat.lp0 (fun k : Nat => [(3, vi .i64 k), (0, .c (tks l))]) (fun k => k ≤ l.length ∧ ∀ i, i < k → ((l.getD i tk0).n.size : Int) ≤ 20 ∧ ((l.getD i tk0).a.length : Int) ≤ 8) (fun k => l.length - k) 0 ⟨Nat.zero_le _, fun i hi => by omega⟩ (by ((first | refine qen ?_ | refine qvs ?_ | refine qeq ?_ | refine qst ?_ | refine qv ?_ | refine qc ?_ | refine qe ?_ | refine qcs ?_ | skip); (repeat' first | exact rfl | (refine qS ?_; constructor)))) ?_
    intro k hk
    refine Fork.dec (fun hlt => ?_) (fun hlt => ?_)
    · have hlt : k < l.length := by omega
      (repeat' first | (refine Owe.same ?_; first | refine Owe.o ?_ | refine Owe.mk ?_ ?_) | (refine Fork.same ?_; (first | refine fkD ?_ ?_ | refine fkN ?_ ?_ | refine fkM ?_ ?_) <;> intro h) | refine MvQ.stay ?_)
      · (refine rqK rfl ?_; (repeat' first | exact rfl | (refine qS ?_; constructor))); simp only [decide_eq_false_iff_not]
        intro hh; have := (hh.2 k hlt).1; simp only [Int.toNat_natCast] at h; omega
      · (refine rqK rfl ?_; (repeat' first | exact rfl | (refine qS ?_; constructor))); simp only [decide_eq_false_iff_not]
        intro hh; have := (hh.2 k hlt).2; simp only [Int.toNat_natCast] at h; omega
      · rename_i h1
        simp only [Int.toNat_natCast] at h h1
        exact again0 (k + 1) ⟨hlt, succ_all hk.2 ⟨by omega, by omega⟩⟩ (by omega) (by ((first | refine qen ?_ | refine qvs ?_ | refine qeq ?_ | refine qst ?_ | refine qv ?_ | refine qc ?_ | refine qe ?_ | refine qcs ?_ | skip); (repeat' first | exact rfl | (refine qS ?_; constructor))))
    · have : k = l.length := by omega
      subst this
      (repeat' first | (refine Owe.same ?_; first | refine Owe.o ?_ | refine Owe.mk ?_ ?_) | (refine Fork.same ?_; (first | refine fkD ?_ ?_ | refine fkN ?_ ?_ | refine fkM ?_ ?_) <;> intro h) | refine MvQ.stay ?_)
      (refine rqK rfl ?_; (repeat' first | exact rfl | (refine qS ?_; constructor)))
      exact decide_eq_true ⟨by omega, hk.2⟩
structure Few (s : Si) : Prop where
  t : fewT s.tk
  h : (s.ho.length : Int) ≤ 7
  r : (s.tr.length : Int) ≤ 7
  i : (s.ti.length : Int) ≤ 8
  a : ∀ i, i < s.tr.length → ((s.tr.getD i []).length : Int) ≤ 7
abbrev fewP (s : Si) : Prop := fewT s.tk ∧ (s.ho.length : Int) ≤ 7 ∧ (s.tr.length : Int) ≤ 7 ∧ (s.ti.length : Int) ≤ 8 ∧ ∀ i, i < s.tr.length → ((s.tr.getD i []).length : Int) ≤ 7
theorem Few.of {s : Si} (h : fewP s) : Few s := ⟨h.1, h.2.1, h.2.2.1, h.2.2.2.1, h.2.2.2.2⟩
abbrev fewB (s : Si) : Bool := decide (fewP s)
theorem Few.sm {s : Si} (h : Few s) : SiSm s where
  tk := by have := h.t.1; omega
  t := fun i hi => by have := h.t.2 i hi; omega
  tr := by have := h.r; omega
  r := fun i hi => by have := h.a i hi; omega
  ho := by have := h.h; omega
  ti := by have := h.i; omega
theorem C59 {s : Si} : PFD Tryz.prog 59 [siv s] (vbl (fewB s)) := by
  have c1 := C25 (l := s.tk)
  by_cases hF : fewT s.tk ∧ (s.ho.length : Int) ≤ 7 ∧ (s.tr.length : Int) ≤ 7 ∧ (s.ti.length : Int) ≤ 8
  · obtain ⟨f1, f2, f3, f4⟩ := hF
    rw [decide_eq_true f1] at c1
    refine pi1 fn59 ?_
    (repeat' first | (refine Owe.same ?_; first | refine Owe.o ?_ | refine Owe.mk ?_ ?_) | (refine Fork.same ?_; (first | refine fkY ?_ | refine fkF ?_ | ((first | refine fkD ?_ ?_ | refine fkN ?_ ?_ | refine fkM ?_ ?_) <;> intro h))) | ((first | refine OpsL.same ?_ | refine OpsDL.same ?_); first | refine oK c1 rfl rfl rfl ?_) | refine MvQ.stay ?_)
    refine Sat.lp0 (fun k : Nat => [(3, vi .i64 k), (1, .c (.rp (siD s)))]) (fun k => k ≤ s.tr.length ∧ ∀ i, i < k → ((s.tr.getD i []).length : Int) ≤ 7) (fun k => s.tr.length - k) 0 ⟨Nat.zero_le _, fun i hi => by omega⟩ (by ((first | refine qen ?_ | refine qvs ?_ | refine qeq ?_ | refine qst ?_ | refine qv ?_ | refine qc ?_ | refine qe ?_ | refine qcs ?_ | skip); (repeat' first | exact rfl | (refine qS ?_; constructor)))) ?_
    intro k hk
    refine Fork.dec (fun hlt => ?_) (fun hlt => ?_)
    · have hlt : k < s.tr.length := by omega
      (repeat' first | (refine Owe.same ?_; first | refine Owe.o ?_ | refine Owe.mk ?_ ?_) | (refine Fork.same ?_; (first | refine fkD ?_ ?_ | refine fkN ?_ ?_ | refine fkM ?_ ?_) <;> intro h) | refine MvQ.stay ?_)
      · (refine rqK rfl ?_; (repeat' first | exact rfl | (refine qS ?_; constructor))); refine decide_eq_false fun hh => ?_
        have := hh.2.2.2.2 k hlt; simp only [Int.toNat_natCast] at h; omega
      · simp only [Int.toNat_natCast] at h
        exact again0 (k + 1) ⟨hlt, succ_all hk.2 (by omega)⟩ (by omega) (by ((first | refine qen ?_ | refine qvs ?_ | refine qeq ?_ | refine qst ?_ | refine qv ?_ | refine qc ?_ | refine qe ?_ | refine qcs ?_ | skip); (repeat' first | exact rfl | (refine qS ?_; constructor))))
    · have : k = s.tr.length := by omega
      subst this
      (repeat' first | (refine Owe.same ?_; first | refine Owe.o ?_ | refine Owe.mk ?_ ?_) | (refine Fork.same ?_; (first | refine fkD ?_ ?_ | refine fkN ?_ ?_ | refine fkM ?_ ?_) <;> intro h) | refine MvQ.stay ?_)
      (refine rqK rfl ?_; (repeat' first | exact rfl | (refine qS ?_; constructor)))
      exact decide_eq_true ⟨f1, f2, f3, f4, hk.2⟩
  · have e : fewB s = false := decide_eq_false fun hh => hF ⟨hh.1, hh.2.1, hh.2.2.1, hh.2.2.2.1⟩
    rw [e]
    by_cases f1 : fewT s.tk
    · rw [decide_eq_true f1] at c1
      by_cases f2 : (s.ho.length : Int) ≤ 7
      · by_cases f3 : (s.tr.length : Int) ≤ 7
        · have f4 : ¬ (s.ti.length : Int) ≤ 8 := fun f4 => hF ⟨f1, f2, f3, f4⟩
          refine pi1 fn59 ?_
          (repeat' first | (refine Owe.same ?_; first | refine Owe.o ?_ | refine Owe.mk ?_ ?_) | (refine Fork.same ?_; (first | refine fkY ?_ | refine fkF ?_ | ((first | refine fkD ?_ ?_ | refine fkN ?_ ?_ | refine fkM ?_ ?_) <;> intro h))) | ((first | refine OpsL.same ?_ | refine OpsDL.same ?_); first | refine oK c1 rfl rfl rfl ?_) | refine MvQ.stay ?_)
          (refine rqK rfl ?_; (repeat' first | exact rfl | (refine qS ?_; constructor)))
        · refine pi1 fn59 ?_
          (repeat' first | (refine Owe.same ?_; first | refine Owe.o ?_ | refine Owe.mk ?_ ?_) | (refine Fork.same ?_; (first | refine fkY ?_ | refine fkF ?_ | ((first | refine fkD ?_ ?_ | refine fkN ?_ ?_ | refine fkM ?_ ?_) <;> intro h))) | ((first | refine OpsL.same ?_ | refine OpsDL.same ?_); first | refine oK c1 rfl rfl rfl ?_) | refine MvQ.stay ?_)
          (refine rqK rfl ?_; (repeat' first | exact rfl | (refine qS ?_; constructor)))
      · refine pi1 fn59 ?_
        (repeat' first | (refine Owe.same ?_; first | refine Owe.o ?_ | refine Owe.mk ?_ ?_) | (refine Fork.same ?_; (first | refine fkY ?_ | refine fkF ?_ | ((first | refine fkD ?_ ?_ | refine fkN ?_ ?_ | refine fkM ?_ ?_) <;> intro h))) | ((first | refine OpsL.same ?_ | refine OpsDL.same ?_); first | refine oK c1 rfl rfl rfl ?_) | refine MvQ.stay ?_)
        (refine rqK rfl ?_; (repeat' first | exact rfl | (refine qS ?_; constructor)))
    · rw [decide_eq_false f1] at c1
      refine pi1 fn59 ?_
      (repeat' first | (refine Owe.same ?_; first | refine Owe.o ?_ | refine Owe.mk ?_ ?_) | (refine Fork.same ?_; (first | refine fkY ?_ | refine fkF ?_ | ((first | refine fkD ?_ ?_ | refine fkN ?_ ?_ | refine fkM ?_ ?_) <;> intro h))) | ((first | refine OpsL.same ?_ | refine OpsDL.same ?_); first | refine oK c1 rfl rfl rfl ?_) | refine MvQ.stay ?_)
      (refine rqK rfl ?_; (repeat' first | exact rfl | (refine qS ?_; constructor)))
abbrev tkC (t : Tk) : List C := [str t.n, int t.p, int t.d, int t.w, int t.o, int t.v, int t.lo, int t.hi, ints t.a]
abbrev rgP (t : Tk) : Prop := ((0 ≤ t.p ∧ t.p ≤ 4) ∧ isN t.d ∧ isN t.w ∧ isN t.o ∧ isN t.v) ∧ isT t.lo ∧ isT t.hi
theorem odd4 {a b c d : Int} : oddI [a, b, c, d] = false ↔ isN a ∧ isN b ∧ isN c ∧ isN d := by
  simp [oddI]
theorem tkE_n {l : List Tk} {k : Nat} (h : ¬ nmP (l.getD k tk0).n) : tkE l k = 4 := by
  have e : tkF l k (l.getD k tk0) = 4 := by rw [tkF, unl, decide_eq_false h]; rfl
  rw [tkE, e]; rfl
theorem tkE_k {l : List Tk} {k : Nat} (h : nmP (l.getD k tk0).n) (h1 : knB l k (l.getD k tk0).n = true) : tkE l k = 5 := by
  have e : tkF l k (l.getD k tk0) = 5 := by rw [tkF, h1, unl, decide_eq_true h]; rfl
  rw [tkE, e]; rfl
theorem fst_00 {b : Bool} {x : Int} : fstE [0, 0, unb b 2, x] = if b = true then x else 2 := by
  cases b
  · rfl
  · show (if x = 0 then 0 else x) = x
    split
    · rename_i h; exact h.symm
    · rfl
theorem tksE_eq {lo hi : Int} : tksE lo hi = if isT lo ∧ isT hi then unl (lo ≤ hi) 9 else 2 := by
  rw [tksE]
  by_cases h : isT lo ∧ isT hi
  · rw [if_pos h, unl, decide_eq_true h]
    by_cases h1 : lo ≤ hi
    · rw [unl, decide_eq_true h1]; rfl
    · rw [unl, decide_eq_false h1]; rfl
  · rw [if_neg h, unl, decide_eq_false h]; rfl
theorem tkE_g {l : List Tk} {k : Nat} (h : nmP (l.getD k tk0).n) (h1 : knB l k (l.getD k tk0).n = false) : tkF l k (l.getD k tk0) = if rgP (l.getD k tk0) then unl ((l.getD k tk0).lo ≤ (l.getD k tk0).hi) 9 else 2 := by
  rw [tkF, h1, unl, decide_eq_true h]
  generalize l.getD k tk0 = t
  show fstE [0, 0, unb _ 2, _] = _
  rw [fst_00, tksE_eq]
  by_cases h2 : 0 ≤ t.p ∧ t.p ≤ 4
  · rcases ho : oddI [t.d, t.w, t.o, t.v] with _ | _
    · have h3 := odd4.1 ho
      rw [decide_eq_true h2, if_pos (show (true && !false) = true from rfl)]
      by_cases h4 : isT t.lo ∧ isT t.hi
      · rw [if_pos h4, if_pos ⟨⟨h2, h3⟩, h4⟩]
      · rw [if_neg h4, if_neg (fun hh => h4 hh.2)]
    · rw [if_neg (by simp), if_neg]
      rintro ⟨⟨_, h3⟩, _⟩
      rw [odd4.2 h3] at ho; cases ho
  · rw [decide_eq_false h2, if_neg (by simp), if_neg (fun hh => h2 hh.1.1)]
theorem tkE_r {l : List Tk} {k : Nat} (h : nmP (l.getD k tk0).n) (h1 : knB l k (l.getD k tk0).n = false) (h2 : ¬ rgP (l.getD k tk0)) : tkE l k = 2 := by
  have e := tkE_g h h1
  rw [if_neg h2] at e
  rw [tkE, e]; rfl
theorem tkE_o {l : List Tk} {k : Nat} (h : nmP (l.getD k tk0).n) (h1 : knB l k (l.getD k tk0).n = false) (h2 : rgP (l.getD k tk0)) (h3 : ¬ (l.getD k tk0).lo ≤ (l.getD k tk0).hi) : tkE l k = 9 := by
  have e := tkE_g h h1
  rw [if_pos h2, unl, decide_eq_false h3] at e
  rw [tkE, e]; rfl
theorem tkE_a {l : List Tk} {k : Nat} (h : nmP (l.getD k tk0).n) (h1 : knB l k (l.getD k tk0).n = false) (h2 : rgP (l.getD k tk0)) (h3 : (l.getD k tk0).lo ≤ (l.getD k tk0).hi) : tkE l k = (ascE (l.getD k tk0).a k).2 := by
  have e := tkE_g h h1
  rw [if_pos h2, unl, decide_eq_true h3] at e
  rw [tkE, e]; rfl
theorem ascN_6 {l : List Int} {b : Int} {j : Nat} (h : ¬ (0 ≤ l.getD j 0 ∧ l.getD j 0 ≤ b - 1)) : ascN l b j = 6 := by
  rw [ascN, unl, decide_eq_false h]; rfl
theorem ascN_9 {l : List Int} {b : Int} {j : Nat} (h : 0 ≤ l.getD j 0 ∧ l.getD j 0 ≤ b - 1) (hj : 0 < j) (h1 : l.getD j 0 ≤ l.getD (j - 1) 0) : ascN l b j = 9 := by
  rw [ascN, unl, decide_eq_true h, lastI, if_neg (by omega), unl, decide_eq_false (by omega)]; rfl
theorem ascN_0 {l : List Int} {b : Int} {j : Nat} (h : 0 ≤ l.getD j 0 ∧ l.getD j 0 ≤ b - 1) (h1 : 0 < j → l.getD (j - 1) 0 < l.getD j 0) : ascN l b j = 0 := by
  rw [ascN, fst2, unl0 (by decide), unl0 (by decide)]
  refine ⟨h, ?_⟩
  rw [lastI]
  split
  · omega
  · exact h1 (by omega)
theorem C45 {l : List Tk} : (l.length ≤ 1000000 ∧ TkSm l) → PFD Tryz.prog 45 [.c (tks l)] (.tup [vi .i64 (tsE l).1, vi .i64 (tsE l).2]) := fun ⟨hl, hs⟩ => by
  obtain ⟨q, hq⟩ : ∃ q, q = tsE l := ⟨_, rfl⟩
  rw [← hq]
  rw [tsE] at hq
  refine pi2 fn45 ?_
  (repeat' first | (refine Owe.same ?_; first | refine Owe.o ?_ | refine Owe.mk ?_ ?_) | (refine Fork.same ?_; (first | refine fkD ?_ ?_ | refine fkN ?_ ?_ | refine fkM ?_ ?_) <;> intro h) | refine MvQ.stay ?_)
  · rw [if_pos (by omega)] at hq; subst hq; (refine rqK rfl ?_; (repeat' first | exact rfl | (refine qS ?_; constructor)))
  · rw [if_neg (by omega)] at hq
    clear h
    have hret : ∀ {k}, k < l.length → (∀ i, i < k → tkE l i = 0) → ∀ {e}, tkE l k = e → ¬ e = 0 → q = ((k : Int), e) := fun hk h1 e he h2 => by
      have h3 := eachN_e hk h1 (by rw [he]; exact h2)
      rw [h3, he] at hq; exact hq
    refine Sat.lp0 (fun k : Nat => [(4, vi .i64 k), (0, .c (tks l))]) (fun k => k ≤ l.length ∧ ∀ i, i < k → tkE l i = 0) (fun k => l.length - k) 0 ⟨Nat.zero_le _, fun i hi => by omega⟩ (by ((first | refine qen ?_ | refine qvs ?_ | refine qeq ?_ | refine qst ?_ | refine qv ?_ | refine qc ?_ | refine qe ?_ | refine qcs ?_ | skip); (repeat' first | exact rfl | (refine qS ?_; constructor)))) ?_
    intro k hk
    refine Fork.dec (fun hlt => ?_) (fun hlt => ?_)
    · have hlt : k < l.length := by omega
      obtain ⟨s1, s2⟩ := hs k hlt
      have hret := fun {e} => @hret k hlt hk.2 e
      have c1 := C117 (s := (l.getD k tk0).n) s1
      (repeat' first | (refine Owe.same ?_; first | refine Owe.o ?_ | refine Owe.mk ?_ ?_) | (refine Fork.same ?_; (first | refine fkD ?_ ?_ | refine fkN ?_ ?_ | refine fkM ?_ ?_) <;> intro h) | ((first | refine OpsL.same ?_ | refine OpsDL.same ?_); first | refine pK c1 rfl rfl ?_) | refine MvQ.stay ?_)
      · have hx := hret (tkE_n (by simpa using h)) (by decide)
        subst hx; (refine rqK rfl ?_; (repeat' first | exact rfl | (refine qS ?_; constructor)))
      · have hn : nmP (l.getD k tk0).n := by simpa using h
        clear h
        refine Sat.lp (fun j : Nat => ⟨[(6, vi .i64 j), (5, .c (.bp 0 0)), (4, vi .i64 k), (0, .c (tks l))], [(0, .box (tkC (l.getD k tk0)))], 1⟩) (fun j => j ≤ k ∧ ∀ i, i < j → decide ((l.getD i tk0).n.data.toList = (l.getD k tk0).n.data.toList) = false) (fun j => k - j) 0 [0] ⟨Nat.zero_le _, fun i hi => by omega⟩ ?_ ?_
        · (refine qis ?_ ?_ <;> (repeat' first | exact rfl | (refine qS ?_; constructor)))
        · intro j hj
          refine Fork.dec (fun hlj => ?_) (fun hlj => ?_)
          · have hlj : j < k := by omega
            (repeat' first | (refine Owe.same ?_; first | refine Owe.o ?_ | refine Owe.mk ?_ ?_) | (refine Fork.same ?_; (first | refine fkD ?_ ?_ | refine fkN ?_ ?_ | refine fkM ?_ ?_) <;> intro h) | refine MvQ.stay ?_)
            · have h : (l.getD j tk0).n.data.toList = (l.getD k tk0).n.data.toList := h
              have hx := hret (tkE_k hn (anyN_t hlj (decide_eq_true h))) (by decide)
              subst hx; (refine rqK rfl ?_; (repeat' first | exact rfl | (refine qS ?_; constructor)))
            · have h : ¬ (l.getD j tk0).n.data.toList = (l.getD k tk0).n.data.toList := h
              refine again (j + 1) [0] ⟨hlj, succ_all hj.2 (decide_eq_false h)⟩ (by omega) ?_
              (refine qis ?_ ?_ <;> (repeat' first | exact rfl | (refine qS ?_; constructor)))
          · have : j = k := by omega
            subst this
            have hkn := anyN_f.2 hj.2
            have hr := tkE_r hn hkn
            have ho := tkE_o hn hkn
            have ha := tkE_a hn hkn
            (repeat' first | (refine Owe.same ?_; first | refine Owe.o ?_ | refine Owe.mk ?_ ?_) | (refine Fork.same ?_; (first | refine fkD ?_ ?_ | refine fkN ?_ ?_ | refine fkM ?_ ?_) <;> intro h) | ((first | refine OpsL.same ?_ | refine OpsDL.same ?_); first | refine pK C46 rfl rfl ?_ | refine pK C118 rfl rfl ?_ | refine pK C119 rfl rfl ?_) | refine MvQ.stay ?_)
            all_goals try (
              have hx := hret (hr (fun hh => by
                obtain ⟨⟨g1, g2, g3, g4, g5⟩, g6, g7⟩ := hh
                first | exact h g1 | exact h g2 | exact h g3 | exact h g4 | exact h g5 | exact h g6 | exact h g7)) (by decide)
              subst hx
              (refine rqK rfl ?_; (repeat' first | exact rfl | (refine qS ?_; constructor)))
              done)
            all_goals
              obtain ⟨g7, g6, g5, g4, g3, g2, g1⟩ := (show _ ∧ _ ∧ _ ∧ _ ∧ _ ∧ _ ∧ _ from ⟨by assumption, by assumption, by assumption, by assumption, by assumption, by assumption, by assumption⟩ : isT (l.getD j tk0).hi ∧ isT (l.getD j tk0).lo ∧ isN (l.getD j tk0).v ∧ isN (l.getD j tk0).o ∧ isN (l.getD j tk0).w ∧ isN (l.getD j tk0).d ∧ (0 ≤ (l.getD j tk0).p ∧ (l.getD j tk0).p ≤ 4))
              have hg : rgP (l.getD j tk0) := ⟨⟨g1, g2, g3, g4, g5⟩, g6, g7⟩
            · have h : (l.getD j tk0).hi < (l.getD j tk0).lo := h
              have hx := hret (ho hg (by omega)) (by decide)
              subst hx
              (refine rqK rfl ?_; (repeat' first | exact rfl | (refine qS ?_; constructor)))
            · have h : ¬ (l.getD j tk0).hi < (l.getD j tk0).lo := h
              have ha := ha hg (by omega)
              clear hr ho hj hkn hlj
              refine Sat.lp (fun m : Nat => ⟨[(7, vi .i64 m), (5, .c (.bp 0 0)), (4, vi .i64 j), (0, .c (tks l))], [(0, .box (tkC (l.getD j tk0)))], 1⟩) (fun m => m ≤ (l.getD j tk0).a.length ∧ ∀ i, i < m → ascN (l.getD j tk0).a j i = 0) (fun m => (l.getD j tk0).a.length - m) 0 [0] ⟨Nat.zero_le _, fun i hi => by omega⟩ ?_ ?_
              · (refine qis ?_ ?_ <;> (repeat' first | exact rfl | (refine qS ?_; constructor)))
              · intro m hm
                refine Fork.dec (fun hlm => ?_) (fun hlm => ?_)
                · have hlm : m < (l.getD j tk0).a.length := by omega
                  have hr : ∀ {e}, ascN (l.getD j tk0).a j m = e → ¬ e = 0 → q = ((j : Int), e) := fun he h2 => by
                    refine hret ?_ h2
                    rw [ha, ascE, eachN_e hlm hm.2 (by rw [he]; exact h2)]
                    exact he
                  (repeat' first | (refine Owe.same ?_; first | refine Owe.o ?_ | refine Owe.mk ?_ ?_) | (refine Fork.same ?_; (first | refine fkD ?_ ?_ | refine fkN ?_ ?_ | refine fkM ?_ ?_) <;> intro h) | ((first | refine OpsL.same ?_ | refine OpsDL.same ?_); first | refine pK C46 rfl rfl ?_) | refine MvQ.stay ?_)
                  · have hx := hr (ascN_6 h) (by decide)
                    subst hx
                    (refine rqK rfl ?_; (repeat' first | exact rfl | (refine qS ?_; constructor)))
                  · have hx := hr (ascN_9 ‹_› (by omega) (by rw [show m - 1 = ((m : Int) - 1).toNat by omega]; exact h)) (by decide)
                    subst hx
                    (refine rqK rfl ?_; (repeat' first | exact rfl | (refine qS ?_; constructor)))
                  · have h0 := ascN_0 (l := (l.getD j tk0).a) (b := j) (j := m) ‹_› (fun _ => by
                      have h : ¬ (l.getD j tk0).a.getD m 0 ≤ (l.getD j tk0).a.getD ((m : Int) - 1).toNat 0 := h
                      rw [show m - 1 = ((m : Int) - 1).toNat by omega]; omega)
                    refine again (m + 1) [0] ⟨hlm, succ_all hm.2 h0⟩ (by omega) ?_
                    (refine qis ?_ ?_ <;> (repeat' first | exact rfl | (refine qS ?_; constructor)))
                  · have h0 := ascN_0 (l := (l.getD j tk0).a) (b := j) (j := m) ‹_› (fun hh => by omega)
                    refine again (m + 1) [0] ⟨hlm, succ_all hm.2 h0⟩ (by omega) ?_
                    (refine qis ?_ ?_ <;> (repeat' first | exact rfl | (refine qS ?_; constructor)))
                · have : m = (l.getD j tk0).a.length := by omega
                  subst this
                  rw [ascE, eachN_z hm.2] at ha
                  (repeat' first | (refine Owe.same ?_; first | refine Owe.o ?_ | refine Owe.mk ?_ ?_) | (refine Fork.same ?_; (first | refine fkD ?_ ?_ | refine fkN ?_ ?_ | refine fkM ?_ ?_) <;> intro h) | refine MvQ.stay ?_)
                  exact again0 (j + 1) ⟨hlt, succ_all hk.2 ha⟩ (by omega) (by ((first | refine qen ?_ | refine qvs ?_ | refine qeq ?_ | refine qst ?_ | refine qv ?_ | refine qc ?_ | refine qe ?_ | refine qcs ?_ | skip); (repeat' first | exact rfl | (refine qS ?_; constructor))))
    · have : k = l.length := by omega
      subst this
      rw [eachN_z hk.2] at hq
      subst hq
      (repeat' first | (refine Owe.same ?_; first | refine Owe.o ?_ | refine Owe.mk ?_ ?_) | (refine Fork.same ?_; (first | refine fkD ?_ ?_ | refine fkN ?_ ?_ | refine fkM ?_ ?_) <;> intro h) | refine MvQ.stay ?_)
      (refine rqK rfl ?_; (repeat' first | exact rfl | (refine qS ?_; constructor)))
theorem hm_1 {s : Si} {i : Nat} (h : ¬ isN (s.ho.getD i 0)) : hmN s i = 2 := by
  rw [hmN, unl, decide_eq_false h]; rfl
theorem hm_2 {s : Si} {i : Nat} (h : isN (s.ho.getD i 0)) (h1 : ¬ ((s.tr.getD i []).length : Int) = s.ho.length) : hmN s i = 10 := by
  rw [hmN, unl, decide_eq_true h, unl, decide_eq_false h1]; rfl
theorem hm_3 {s : Si} {i j : Nat} (h : isN (s.ho.getD i 0)) (h1 : ((s.tr.getD i []).length : Int) = s.ho.length) (hj : j < s.ho.length) (h2 : ¬ isN ((s.tr.getD i []).getD j 0) ∨ (i = j ∧ (s.tr.getD i []).getD j 0 ≠ 0)) : hmN s i = 2 := by
  have hb : hmB s i = false := by
    rcases h2 with h2 | ⟨rfl, h2⟩
    · have : oddI (s.tr.getD i []) = true := List.any_eq_true.2 ⟨_, getD_mem 0 (show j < (s.tr.getD i []).length by omega), by rw [decide_eq_false h2]; rfl⟩
      rw [hmB, this]; rfl
    · rw [hmB, decide_eq_false (by omega), decide_eq_false h2]; simp
  rw [hmN, hb, unl, decide_eq_true h, unl, decide_eq_true h1]; rfl
theorem hm_0 {s : Si} {i : Nat} (h : isN (s.ho.getD i 0)) (h1 : ((s.tr.getD i []).length : Int) = s.ho.length) (h2 : ∀ j, j < s.ho.length → isN ((s.tr.getD i []).getD j 0) ∧ (i = j → (s.tr.getD i []).getD j 0 = 0)) (hi : i < s.ho.length) : hmN s i = 0 := by
  have hb : hmB s i = true := by
    have : oddI (s.tr.getD i []) = false := List.any_eq_false.2 fun x hx => by
      obtain ⟨j, hj, rfl⟩ := List.getElem_of_mem hx
      have := (h2 j (by omega)).1
      rw [List.getD_eq_getElem?_getD, List.getElem?_eq_getElem hj] at this
      simpa using this
    rw [hmB, this, decide_eq_true ((h2 i hi).2 rfl)]; simp
  rw [hmN, hb, unl, decide_eq_true h, unl, decide_eq_true h1]; rfl
theorem ti_2 {s : Si} {i : Nat} (h : ¬ ((isT (s.ti.getD i (0, 0, 0)).1 ∧ isT (s.ti.getD i (0, 0, 0)).2.1) ∧ isN (s.ti.getD i (0, 0, 0)).2.2)) : tiN s i = 2 := by
  rw [tiN, tiF, unl, decide_eq_false h]; rfl
theorem ti_9 {s : Si} {i : Nat} (h : (isT (s.ti.getD i (0, 0, 0)).1 ∧ isT (s.ti.getD i (0, 0, 0)).2.1) ∧ isN (s.ti.getD i (0, 0, 0)).2.2) (h1 : ¬ ((s.ti.getD i (0, 0, 0)).1 ≤ (s.ti.getD i (0, 0, 0)).2.1 ∧ lastT s i < (s.ti.getD i (0, 0, 0)).1)) : tiN s i = 9 := by
  rw [tiN, tiF, unl, decide_eq_true h, unl, decide_eq_false h1]; rfl
theorem ti_0 {s : Si} {i : Nat} (h : (isT (s.ti.getD i (0, 0, 0)).1 ∧ isT (s.ti.getD i (0, 0, 0)).2.1) ∧ isN (s.ti.getD i (0, 0, 0)).2.2) (h1 : (s.ti.getD i (0, 0, 0)).1 ≤ (s.ti.getD i (0, 0, 0)).2.1 ∧ lastT s i < (s.ti.getD i (0, 0, 0)).1) : tiN s i = 0 := by
  rw [tiN, tiF, unl, decide_eq_true h, unl, decide_eq_true h1]; rfl
theorem lastT_of {s : Si} {i : Nat} {x : Int} (h : 0 ≤ x) : lastT s i < x ↔ ¬ (0 < i ∧ x ≤ (s.ti.getD (i - 1) (0, 0, 0)).2.1) := by
  rw [lastT]
  split <;> omega
theorem C138 {s : Si} : SiSm s → PFD Tryz.prog 138 [siv s] (.tup [vi .i64 (siE s).1, vi .i64 (siE s).2]) := fun hs => by
  obtain ⟨stk, st, str, sr, sho, sti⟩ := hs
  obtain ⟨q, hq⟩ : ∃ q, q = siE s := ⟨_, rfl⟩
  rw [← hq]
  rw [siE] at hq
  have c1 := C45 (l := s.tk) ⟨stk, st⟩
  refine pi2 fn138 ?_
  (repeat' first | (refine Owe.same ?_; first | refine Owe.o ?_ | refine Owe.mk ?_ ?_) | (refine Fork.same ?_; (first | refine fkD ?_ ?_ | refine fkN ?_ ?_ | refine fkM ?_ ?_) <;> intro h) | ((first | refine OpsL.same ?_ | refine OpsDL.same ?_); first | refine pK c1 rfl rfl ?_) | refine MvQ.stay ?_)
  · rw [if_neg h] at hq; subst hq; (refine rqK rfl ?_; (repeat' first | exact rfl | (refine qS ?_; constructor)))
  · rename_i h0
    have e : hoE s = 10 := by rw [hoE, unl, decide_eq_false (by omega)]; rfl
    rw [if_pos h0, if_neg (by rw [e]; decide), e] at hq
    subst hq; (refine rqK rfl ?_; (repeat' first | exact rfl | (refine qS ?_; constructor)))
  · rename_i h0 h1
    have e : hoE s = 8 := by rw [hoE, unl, decide_eq_true (show (s.ho.length : Int) > 0 by omega), unl, decide_eq_false (by omega)]; rfl
    rw [if_pos h0, if_neg (by rw [e]; decide), e] at hq
    subst hq; (refine rqK rfl ?_; (repeat' first | exact rfl | (refine qS ?_; constructor)))
  · rename_i h0 h1 h2
    have e : hoE s = 10 := by rw [hoE, unl, decide_eq_true (show (s.ho.length : Int) > 0 by omega), unl, decide_eq_true (by omega), unl, decide_eq_false (by omega)]; rfl
    rw [if_pos h0, if_neg (by rw [e]; decide), e] at hq
    subst hq; (refine rqK rfl ?_; (repeat' first | exact rfl | (refine qS ?_; constructor)))
  · rename_i h0 h1 h2
    have e : hoE s = 0 := by rw [hoE, unl, decide_eq_true (show (s.ho.length : Int) > 0 by omega), unl, decide_eq_true (by omega), unl, decide_eq_true (by omega)]; rfl
    rw [if_pos h0, if_pos e] at hq
    have hret : ∀ {k}, k < s.ho.length → (∀ i, i < k → hmN s i = 0) → ∀ {e}, hmN s k = e → ¬ e = 0 → q = ((k : Int), e) := fun hk h1 e he h2 => by
      have e := eachN_e hk h1 (by rw [he]; exact h2)
      rw [if_neg (by rw [e, he]; exact h2), e, he] at hq; exact hq
    refine Sat.lp0 (fun k : Nat => [(6, vi .i64 k), (1, .c (.rp (siD s)))]) (fun k => k ≤ s.ho.length ∧ ∀ i, i < k → hmN s i = 0) (fun k => s.ho.length - k) 0 ⟨Nat.zero_le _, fun i hi => by omega⟩ (by ((first | refine qen ?_ | refine qvs ?_ | refine qeq ?_ | refine qst ?_ | refine qv ?_ | refine qc ?_ | refine qe ?_ | refine qcs ?_ | skip); (repeat' first | exact rfl | (refine qS ?_; constructor)))) ?_
    intro k hk
    refine Fork.dec (fun hlt => ?_) (fun hlt => ?_)
    · have hlt : k < s.ho.length := by omega
      have hret := fun {e} => @hret k hlt hk.2 e
      (repeat' first | (refine Owe.same ?_; first | refine Owe.o ?_ | refine Owe.mk ?_ ?_) | (refine Fork.same ?_; (first | refine fkD ?_ ?_ | refine fkN ?_ ?_ | refine fkM ?_ ?_) <;> intro h) | ((first | refine OpsL.same ?_ | refine OpsDL.same ?_); first | refine pK C118 rfl rfl ?_) | refine MvQ.stay ?_)
      · have h : ¬ isN (s.ho.getD k 0) := by simpa using h
        have hx := hret (hm_1 h) (by decide)
        subst hx; (refine rqK rfl ?_; (repeat' first | exact rfl | (refine qS ?_; constructor)))
      · rename_i h3
        have h3 : isN (s.ho.getD k 0) := by simpa using h3
        simp only [Int.toNat_natCast] at h
        have hx := hret (hm_2 h3 h) (by decide)
        subst hx; (refine rqK rfl ?_; (repeat' first | exact rfl | (refine qS ?_; constructor)))
      · rename_i h3
        have h3 : isN (s.ho.getD k 0) := by simpa using h3
        simp only [Int.toNat_natCast] at h
        have h4 : ((s.tr.getD k []).length : Int) = s.ho.length := by simpa using h
        clear h
        refine Sat.lp0 (fun j : Nat => [(7, vi .i64 j), (6, vi .i64 k), (1, .c (.rp (siD s)))]) (fun j => j ≤ s.ho.length ∧ ∀ i, i < j → isN ((s.tr.getD k []).getD i 0) ∧ (k = i → (s.tr.getD k []).getD i 0 = 0)) (fun j => s.ho.length - j) 0 ⟨Nat.zero_le _, fun i hi => by omega⟩ (by ((first | refine qen ?_ | refine qvs ?_ | refine qeq ?_ | refine qst ?_ | refine qv ?_ | refine qc ?_ | refine qe ?_ | refine qcs ?_ | skip); (repeat' first | exact rfl | (refine qS ?_; constructor)))) ?_
        intro j hj
        refine Fork.dec (fun hlj => ?_) (fun hlj => ?_)
        · have hlj : j < s.ho.length := by omega
          have hr := fun h => hret (hm_3 h3 h4 hlj h) (by decide)
          (repeat' first | (refine Owe.same ?_; first | refine Owe.o ?_ | refine Owe.mk ?_ ?_) | (refine Fork.same ?_; (first | refine fkD ?_ ?_ | refine fkN ?_ ?_ | refine fkM ?_ ?_) <;> intro h) | ((first | refine OpsL.same ?_ | refine OpsDL.same ?_); first | refine pK C118 rfl rfl ?_) | refine MvQ.stay ?_)
          · have hx := hr (.inl h)
            subst hx
            (refine rqK rfl ?_; (repeat' first | exact rfl | (refine qS ?_; constructor)))
          · rename_i g1 g2
            have hx := hr (.inr ⟨by omega, h⟩)
            subst hx
            (refine rqK rfl ?_; (repeat' first | exact rfl | (refine qS ?_; constructor)))
          · rename_i g1 g2
            exact again0 (j + 1) ⟨hlj, succ_all hj.2 ⟨g1, fun _ => h⟩⟩ (by omega) (by ((first | refine qen ?_ | refine qvs ?_ | refine qeq ?_ | refine qst ?_ | refine qv ?_ | refine qc ?_ | refine qe ?_ | refine qcs ?_ | skip); (repeat' first | exact rfl | (refine qS ?_; constructor))))
          · rename_i g1
            exact again0 (j + 1) ⟨hlj, succ_all hj.2 ⟨g1, fun e => absurd (show (k : Int) = j by omega) h⟩⟩ (by omega) (by ((first | refine qen ?_ | refine qvs ?_ | refine qeq ?_ | refine qst ?_ | refine qv ?_ | refine qc ?_ | refine qe ?_ | refine qcs ?_ | skip); (repeat' first | exact rfl | (refine qS ?_; constructor))))
        · have : j = s.ho.length := by omega
          subst this
          (repeat' first | (refine Owe.same ?_; first | refine Owe.o ?_ | refine Owe.mk ?_ ?_) | (refine Fork.same ?_; (first | refine fkD ?_ ?_ | refine fkN ?_ ?_ | refine fkM ?_ ?_) <;> intro h) | refine MvQ.stay ?_)
          exact again0 (k + 1) ⟨hlt, succ_all hk.2 (hm_0 h3 h4 hj.2 hlt)⟩ (by omega) (by ((first | refine qen ?_ | refine qvs ?_ | refine qeq ?_ | refine qst ?_ | refine qv ?_ | refine qc ?_ | refine qe ?_ | refine qcs ?_ | skip); (repeat' first | exact rfl | (refine qS ?_; constructor))))
    · have : k = s.ho.length := by omega
      subst this
      rw [if_pos (eachN_ok.2 hk.2)] at hq
      clear hret hk hlt
      have hret : ∀ {k}, k < s.tk.length → (∀ i, i < k → plN s i = 0) → ∀ {e}, plN s k = e → ¬ e = 0 → q = ((k : Int), e) := fun hk h1 e he h2 => by
        have e := eachN_e hk h1 (by rw [he]; exact h2)
        rw [if_neg (by rw [e, he]; exact h2), e, he] at hq; exact hq
      (repeat' first | (refine Owe.same ?_; first | refine Owe.o ?_ | refine Owe.mk ?_ ?_) | (refine Fork.same ?_; (first | refine fkD ?_ ?_ | refine fkN ?_ ?_ | refine fkM ?_ ?_) <;> intro h) | refine MvQ.stay ?_)
      refine Sat.lp0 (fun k : Nat => [(8, vi .i64 k), (1, .c (.rp (siD s)))]) (fun k => k ≤ s.tk.length ∧ ∀ i, i < k → plN s i = 0) (fun k => s.tk.length - k) 0 ⟨Nat.zero_le _, fun i hi => by omega⟩ (by ((first | refine qen ?_ | refine qvs ?_ | refine qeq ?_ | refine qst ?_ | refine qv ?_ | refine qc ?_ | refine qe ?_ | refine qcs ?_ | skip); (repeat' first | exact rfl | (refine qS ?_; constructor)))) ?_
      intro k hk
      refine Fork.dec (fun hlt => ?_) (fun hlt => ?_)
      · have hlt : k < s.tk.length := by omega
        (repeat' first | (refine Owe.same ?_; first | refine Owe.o ?_ | refine Owe.mk ?_ ?_) | (refine Fork.same ?_; (first | refine fkD ?_ ?_ | refine fkN ?_ ?_ | refine fkM ?_ ?_) <;> intro h) | refine MvQ.stay ?_)
        · have h : (s.ho.length : Int) ≤ (s.tk.getD k tk0).p := h
          have hx := hret hlt hk.2 (e := 6) (by rw [plN, unl, decide_eq_false (by omega)]; rfl) (by decide)
          subst hx
          (refine rqK rfl ?_; (repeat' first | exact rfl | (refine qS ?_; constructor)))
        · have h : ¬ (s.ho.length : Int) ≤ (s.tk.getD k tk0).p := h
          exact again0 (k + 1) ⟨hlt, succ_all hk.2 (by rw [plN, unl, decide_eq_true (by omega)]; rfl)⟩ (by omega) (by ((first | refine qen ?_ | refine qvs ?_ | refine qeq ?_ | refine qst ?_ | refine qv ?_ | refine qc ?_ | refine qe ?_ | refine qcs ?_ | skip); (repeat' first | exact rfl | (refine qS ?_; constructor))))
      · have : k = s.tk.length := by omega
        subst this
        rw [if_pos (eachN_ok.2 hk.2)] at hq
        clear hret hk hlt
        (repeat' first | (refine Owe.same ?_; first | refine Owe.o ?_ | refine Owe.mk ?_ ?_) | (refine Fork.same ?_; (first | refine fkD ?_ ?_ | refine fkN ?_ ?_ | refine fkM ?_ ?_) <;> intro h) | refine MvQ.stay ?_)
        · rw [if_pos h] at hq; subst hq; (refine rqK rfl ?_; (repeat' first | exact rfl | (refine qS ?_; constructor)))
        · rw [if_neg h] at hq
          have hret : ∀ {k}, k < s.ti.length → (∀ i, i < k → tiN s i = 0) → ∀ {e}, tiN s k = e → ¬ e = 0 → q = ((k : Int), e) := fun hk h1 e he h2 => by
            have e := eachN_e hk h1 (by rw [he]; exact h2)
            rw [if_neg (by rw [e, he]; exact h2), e, he] at hq; exact hq
          refine Sat.lp0 (fun k : Nat => [(9, vi .i64 k), (1, .c (.rp (siD s)))]) (fun k => k ≤ s.ti.length ∧ ∀ i, i < k → tiN s i = 0) (fun k => s.ti.length - k) 0 ⟨Nat.zero_le _, fun i hi => by omega⟩ (by ((first | refine qen ?_ | refine qvs ?_ | refine qeq ?_ | refine qst ?_ | refine qv ?_ | refine qc ?_ | refine qe ?_ | refine qcs ?_ | skip); (repeat' first | exact rfl | (refine qS ?_; constructor)))) ?_
          intro k hk
          refine Fork.dec (fun hlt => ?_) (fun hlt => ?_)
          · have hlt : k < s.ti.length := by omega
            have hret := fun {e} => @hret k hlt hk.2 e
            have h2 := fun h => hret (ti_2 h) (by decide)
            have h9 := fun h h' => hret (ti_9 h h') (by decide)
            have h0 := fun h h' => ti_0 (s := s) (i := k) h h'
            have hla := fun h => lastT_of (s := s) (i := k) (x := (s.ti.getD k (0, 0, 0)).1) h
            (repeat' first | (refine Owe.same ?_; first | refine Owe.o ?_ | refine Owe.mk ?_ ?_) | (refine Fork.same ?_; (first | refine fkD ?_ ?_ | refine fkN ?_ ?_ | refine fkM ?_ ?_) <;> intro h) | ((first | refine OpsL.same ?_ | refine OpsDL.same ?_); first | refine pK C119 rfl rfl ?_ | refine pK C118 rfl rfl ?_) | refine MvQ.stay ?_)
            · have hx := h2 (fun hh => h hh.1.1)
              subst hx
              (refine rqK rfl ?_; (repeat' first | exact rfl | (refine qS ?_; constructor)))
            · have hx := h2 (fun hh => h hh.1.2)
              subst hx
              (refine rqK rfl ?_; (repeat' first | exact rfl | (refine qS ?_; constructor)))
            · have hx := h2 (fun hh => h hh.2)
              subst hx
              (refine rqK rfl ?_; (repeat' first | exact rfl | (refine qS ?_; constructor)))
            · have h : (s.ti.getD k (0, 0, 0)).2.1 < (s.ti.getD k (0, 0, 0)).1 := h
              have hx := h9 ⟨⟨‹_›, ‹_›⟩, ‹_›⟩ (fun hh => by omega)
              subst hx
              (refine rqK rfl ?_; (repeat' first | exact rfl | (refine qS ?_; constructor)))
            · rename_i g1 g2 g3 g4 g5
              have h : (s.ti.getD k (0, 0, 0)).1 ≤ (s.ti.getD ((k : Int) - 1).toNat (0, 0, 0)).2.1 := h
              rw [show ((k : Int) - 1).toNat = k - 1 by omega] at h
              have hx := h9 ⟨⟨g1, g2⟩, g3⟩ (fun hh => (hla g1.1).1 hh.2 ⟨by omega, h⟩)
              subst hx
              (refine rqK rfl ?_; (repeat' first | exact rfl | (refine qS ?_; constructor)))
            · rename_i g1 g2 g3 g4 g5
              have h : ¬ (s.ti.getD k (0, 0, 0)).1 ≤ (s.ti.getD ((k : Int) - 1).toNat (0, 0, 0)).2.1 := h
              have g4 : ¬ (s.ti.getD k (0, 0, 0)).2.1 < (s.ti.getD k (0, 0, 0)).1 := g4
              rw [show ((k : Int) - 1).toNat = k - 1 by omega] at h
              exact again0 (k + 1) ⟨hlt, succ_all hk.2 (h0 ⟨⟨g1, g2⟩, g3⟩ ⟨by omega, (hla g1.1).2 (fun hh => h hh.2)⟩)⟩ (by omega) (by ((first | refine qen ?_ | refine qvs ?_ | refine qeq ?_ | refine qst ?_ | refine qv ?_ | refine qc ?_ | refine qe ?_ | refine qcs ?_ | skip); (repeat' first | exact rfl | (refine qS ?_; constructor))))
            · rename_i g1 g2 g3 g4
              have g4 : ¬ (s.ti.getD k (0, 0, 0)).2.1 < (s.ti.getD k (0, 0, 0)).1 := g4
              exact again0 (k + 1) ⟨hlt, succ_all hk.2 (h0 ⟨⟨g1, g2⟩, g3⟩ ⟨by omega, (hla g1.1).2 (fun hh => by omega)⟩)⟩ (by omega) (by ((first | refine qen ?_ | refine qvs ?_ | refine qeq ?_ | refine qst ?_ | refine qv ?_ | refine qc ?_ | refine qe ?_ | refine qcs ?_ | skip); (repeat' first | exact rfl | (refine qS ?_; constructor))))
          · have : k = s.ti.length := by omega
            subst this
            rw [if_pos (eachN_ok.2 hk.2)] at hq
            have hf : ¬ (((isN s.idle ∧ isN s.swim) ∧ isN s.res) ∧ isT s.fin) → q = (0, 2) := fun h => by rw [hq, enE, unl, decide_eq_false h]; rfl
            have ht : (((isN s.idle ∧ isN s.swim) ∧ isN s.res) ∧ isT s.fin) → q = (0, 0) := fun h => by rw [hq, enE, unl, decide_eq_true h]; rfl
            clear hq
            (repeat' first | (refine Owe.same ?_; first | refine Owe.o ?_ | refine Owe.mk ?_ ?_) | (refine Fork.same ?_; (first | refine fkD ?_ ?_ | refine fkN ?_ ?_ | refine fkM ?_ ?_) <;> intro h) | ((first | refine OpsL.same ?_ | refine OpsDL.same ?_); first | refine pK C119 rfl rfl ?_ | refine pK C118 rfl rfl ?_) | refine MvQ.stay ?_)
            · have hx := hf (fun hh => h hh.1.1.1)
              subst hx
              (refine rqK rfl ?_; (repeat' first | exact rfl | (refine qS ?_; constructor)))
            · have hx := hf (fun hh => h hh.1.1.2)
              subst hx
              (refine rqK rfl ?_; (repeat' first | exact rfl | (refine qS ?_; constructor)))
            · have hx := hf (fun hh => h hh.1.2)
              subst hx
              (refine rqK rfl ?_; (repeat' first | exact rfl | (refine qS ?_; constructor)))
            · have hx := hf (fun hh => h hh.2)
              subst hx
              (refine rqK rfl ?_; (repeat' first | exact rfl | (refine qS ?_; constructor)))
            · rename_i g1 g2 g3
              have hx := ht ⟨⟨⟨g1, g2⟩, g3⟩, h⟩
              subst hx
              (refine rqK rfl ?_; (repeat' first | exact rfl | (refine qS ?_; constructor)))
end Go.Pw
set_option linter.unusedVariables false
set_option maxHeartbeats 2000000
set_option maxRecDepth 100000
namespace Go.Pw
open Go Go.Proofs
def lc65m : LCode :=
 (zQ [zI 1 (.boxS (zR 0)), zI 2 (.alloc [(.slice none 0 0), (.slice none 0 0), (.slice none 0 0), (.slice none 0 0), (.int .i64 0), (.int .i64 0), (.int .i64 0), (.int .i64 0)])] (zQ [zI 5 (.load true 8 (zR 1)), zI 3
 (.alloc [(.slice none 0 0), (.slice none 0 0), (.slice none 0 0), (.slice none 0 0), (.int .i64 0), (.int .i64 0), (.int .i64 0), (.int .i64 0)]), zN (.store 8 (zR 3) (zR 5))] (zQ [zI 6 (.fld 0 (zR 1)), zL 7 6, zI 8 (zC
 28 [(zR 7)]), zI 9 (.fld 0 (zR 3)), zN (.store 1 (zR 9) (zR 8))] (zQ [zI 10 (.fld 1 (zR 3)), zN (.store 1 (zR 10) (.const (.slice none 0 0)))] (.seq (zQ [zI 4 (.mv (zK 0))] (.block 0 (.loop (.seq (zQ [zM 11 4, zI 12
 (.fld 1 (zR 1)), zL 13 12, zI 14 (.len (zR 13)), zI 15 (.bin .lss (zR 11) (zR 14))] (.cond (zR 15) .skip (.exit 0))) (.seq (.block 1 (.regionD [zI 18 (.fld 1 (zR 3)), zL 19 18, zI 20 (.fld 1 (zR 1)), zL 21 20, zM 22 4,
 zI 23 (.idx 1 (zR 21) (zR 22)), zL 24 23, zI 25 (zC 32 [(zR 24)]), zI 26 (.lit false 49 1 [(zR 25)]), zI 27 (.append true 49 1 24 (zR 19) (zR 26)), zI 28 (.fld 1 (zR 3)), zN (.store 1 (zR 28) (zR 27))] [0, 1, 0, 4, 0,
 28, 60, 124, 252, 511, 1023, 2047] [0, 1, 2, 3, 4, 5, 6, 7, 8, 9, 10, 11])) (.region [zM 16 4, zI 17 (.bin .add (zR 16) (zK 1)), zM 4 17])))))) (zQ [zI 29 (.fld 2 (zR 1)), zL 30 29, zI 31 (zC 32 [(zR 30)]), zI 32 (.fld 2
 (zR 3)), zN (.store 1 (zR 32) (zR 31))] (zQ [zI 33 (.lit false 273 3 []), zI 34 (.fld 3 (zR 1)), zL 35 34, zI 36 (.append false 273 3 24 (zR 33) (zR 35)), zI 37 (.fld 3 (zR 3)), zN (.store 1 (zR 37) (zR 36))] (zQ [zI 38
 (.load true 8 (zR 3)), zN (.store 8 (zR 2) (zR 38))] .ret))))))))
theorem low65m : lowF Tryz.prog [1, 27] Tryz.f65 = some (39, lc65m.strip, [.cell 2 true 8]) := by kernel_rfl
theorem fn65m : FnOk Tryz.prog 65 39 lc65m [.cell 2 true 8] := ⟨Tryz.call65, [1, 27], _, Tryz.func65, low65m⟩
end Go.Pw
set_option linter.unusedSimpArgs false
set_option linter.unusedVariables false
set_option maxHeartbeats 4000000
namespace Go.Pw
set_option maxRecDepth 2000
open Go Go.Proofs A1 A2 A3 A4
theorem C32 {l : List Int} : l.length ≤ 1000000 → PFD Tryz.prog 32 [.c (ints l)] (.c (ints l)) := fun h => by
  refine pi1 fn32 ?_
  (repeat' first | (refine Owe.same ?_; first | refine Owe.o ?_ | refine Owe.mk ?_ ?_) | (refine Fork.same ?_; (first | refine fkD ?_ ?_ | refine fkN ?_ ?_ | refine fkM ?_ ?_) <;> intro h) | refine MvQ.stay ?_)
  (refine rqK rfl ?_; (repeat' first | exact rfl | (refine qS ?_; constructor)))
theorem C30 {t : St8} : t.d.length ≤ 1000000 → PFD Tryz.prog 30 [stv t] (stv t) := fun h => by
  have c1 := C32 (l := t.d) h
  refine pi1 fn30 ?_
  (repeat' first | (refine Owe.same ?_; first | refine Owe.o ?_ | refine Owe.mk ?_ ?_) | (refine Fork.same ?_; (first | refine fkD ?_ ?_ | refine fkN ?_ ?_ | refine fkM ?_ ?_) <;> intro h) | ((first | refine OpsL.same ?_ | refine OpsDL.same ?_); first | refine pK c1 rfl rfl ?_) | refine MvQ.stay ?_)
  (refine rqK rfl ?_; (repeat' first | exact rfl | (refine qS ?_; constructor)))
theorem C28 {l : List Tk} : (l.length ≤ 1000000 ∧ TkSm l) → PFD Tryz.prog 28 [.c (tks l)] (.c (tks l)) := fun ⟨hl, hs⟩ => by
  refine pi1 fn28 ?_
  (repeat' first | (refine Owe.same ?_; first | refine Owe.o ?_ | refine Owe.mk ?_ ?_) | (refine Fork.same ?_; (first | refine fkD ?_ ?_ | refine fkN ?_ ?_ | refine fkM ?_ ?_) <;> intro h) | refine MvQ.stay ?_)
  refine Sat.nilS 3 182 9 (fun i => tkr (([] : List Tk).getD i tk0)) rfl ?_
  refine Sat.lp (fun k : Nat => ⟨[(4, vi .i64 k), (0, .c (tks l)), (3, .c (.ms 0 (l.take k).length))], [(0, rowv 182 9 tkr tk0 (l.take k))], 1⟩) (fun k => k ≤ l.length) (fun k => l.length - k) 0 [0] (Nat.zero_le _) ?_ ?_
  · (refine qis ?_ ?_ <;> (repeat' first | exact rfl | (refine qS ?_; constructor)))
  · intro k hk
    refine Fork.dec (fun hlt => ?_) (fun hlt => ?_)
    · have hlt : k < l.length := by omega
      have c1 := C32 (l := (l.getD k tk0).a) (hs k hlt).2
      have hl1 : (l.take k).length = k := by rw [List.length_take]; omega
      have htk : l.take (k + 1) = l.take k ++ [l.getD k tk0] := by
        rw [List.take_add_one, List.getElem?_eq_getElem hlt, List.getD_eq_getElem?_getD, List.getElem?_eq_getElem hlt]; rfl
      (repeat' first | (refine Owe.same ?_; first | refine Owe.o ?_ | refine Owe.mk ?_ ?_) | (refine Fork.same ?_; (first | refine fkD ?_ ?_ | refine fkN ?_ ?_ | refine fkM ?_ ?_) <;> intro h) | ((first | refine OpsL.same ?_ | refine OpsDL.same ?_); first | refine pK c1 rfl rfl ?_) | refine MvQ.stay ?_)
      refine again (k + 1) [2] hlt (by omega) ?_
      rw [htk]
      (refine qis ?_ ?_ <;> (repeat' first | exact rfl | (refine qS ?_; constructor)))
      · simp
      · exact ⟨l.getD k tk0, rfl, rfl⟩
    · have : k = l.length := by omega
      subst this
      (repeat' first | (refine Owe.same ?_; first | refine Owe.o ?_ | refine Owe.mk ?_ ?_) | (refine Fork.same ?_; (first | refine fkD ?_ ?_ | refine fkN ?_ ?_ | refine fkM ?_ ?_) <;> intro h) | refine MvQ.stay ?_)
      rw [List.take_length]
      refine rqF 0 _ rfl rfl rfl ?_; (repeat' first | exact rfl | (refine qS ?_; constructor))
theorem C65 {s : Si} : SiSm s → PFD Tryz.prog 65 [siv s] (siv s) := fun hs => by
  have c1 := C28 (l := s.tk) ⟨hs.tk, hs.t⟩
  have c2 := C32 (l := s.ho) hs.ho
  have htr := hs.tr
  have hti := hs.ti
  refine pi1 fn65m ?_
  (repeat' first | (refine Owe.same ?_; first | refine Owe.o ?_ | refine Owe.mk ?_ ?_) | (refine Fork.same ?_; (first | refine fkD ?_ ?_ | refine fkN ?_ ?_ | refine fkM ?_ ?_) <;> intro h) | ((first | refine OpsL.same ?_ | refine OpsDL.same ?_); first | refine pK c1 rfl rfl ?_) | refine MvQ.stay ?_)
  refine Sat.nilB 1 1 49 1 (fun i => [intsD (([] : List (List Int)).getD i [])]) rfl rfl ?_
  refine Sat.lp (fun k : Nat => ⟨[(4, vi .i64 k), (1, .c (.rp (siD s))), (2, .c (.bp 0 0)), (3, .c (.bp 1 0))], [(2, rowv 49 1 (fun l => [intsD l]) [] (s.tr.take k)), (1, .box [.d (tksD s.tk), .ms 2 (s.tr.take k).length, ints s.ho, trs s.ti, int s.idle, int s.swim, int s.res, int s.fin]), (0, .box [.d (.v (.slice none 0 0)), .d (.v (.slice none 0 0)), .d (.v (.slice none 0 0)), .d (.v (.slice none 0 0)), int 0, int 0, int 0, int 0])], 3⟩) (fun k => k ≤ s.tr.length) (fun k => s.tr.length - k) 0 [0, 1, 2] (Nat.zero_le _) ?_ ?_
  · (refine qis ?_ ?_ <;> (repeat' first | exact rfl | (refine qS ?_; constructor)))
  · intro k hk
    refine Fork.dec (fun hlt => ?_) (fun hlt => ?_)
    · have hlt : k < s.tr.length := by omega
      have c3 := C32 (l := s.tr.getD k []) (hs.r k hlt)
      have hl1 : (s.tr.take k).length = k := by rw [List.length_take]; omega
      have htk : s.tr.take (k + 1) = s.tr.take k ++ [s.tr.getD k []] := by
        rw [List.take_add_one, List.getElem?_eq_getElem hlt, List.getD_eq_getElem?_getD, List.getElem?_eq_getElem hlt]; rfl
      (repeat' first | (refine Owe.same ?_; first | refine Owe.o ?_ | refine Owe.mk ?_ ?_) | (refine Fork.same ?_; (first | refine fkD ?_ ?_ | refine fkN ?_ ?_ | refine fkM ?_ ?_) <;> intro h) | ((first | refine OpsL.same ?_ | refine OpsDL.same ?_); first | refine pK c3 rfl rfl ?_) | refine MvQ.stay ?_)
      refine again (k + 1) [0, 1, 11] hlt (by omega) ?_
      rw [htk]
      (refine qis ?_ ?_ <;> (repeat' first | exact rfl | (refine qS ?_; constructor)))
      · exact ⟨s.tr.getD k [], rfl, rfl⟩
      · simp
    · have : k = s.tr.length := by omega
      subst this
      rw [List.take_length]
      (repeat' first | (refine Owe.same ?_; first | refine Owe.o ?_ | refine Owe.mk ?_ ?_) | (refine Fork.same ?_; (first | refine fkD ?_ ?_ | refine fkN ?_ ?_ | refine fkM ?_ ?_) <;> intro h))
      refine MvQ.frzX 1 1 2 rfl rfl rfl (Nat.le_refl _) ?_
      (repeat' first | (refine Owe.same ?_; first | refine Owe.o ?_ | refine Owe.mk ?_ ?_) | (refine Fork.same ?_; (first | refine fkD ?_ ?_ | refine fkN ?_ ?_ | refine fkM ?_ ?_) <;> intro h) | ((first | refine OpsL.same ?_ | refine OpsDL.same ?_); first | refine pK c2 rfl rfl ?_) | refine MvQ.stay ?_)
      (refine rqK rfl ?_; (repeat' first | exact rfl | (refine qS ?_; constructor)))
def rsE (s : Si) (t : St8) : Int × Int := if 0 ≤ t.p ∧ t.p ≤ (s.ho.length : Int) - 1 then (if (isT t.t ∧ 0 ≤ t.w ∧ t.w ≤ 100000000) ∧ isN t.o then ascE t.d s.tk.length else (0, 2)) else (0, 6)
theorem rsE_eq {s : Si} {t : St8} (h : (siE s).2 = 0) : stE s t = rsE s t := by
  have e : stF s t = if 0 ≤ t.p ∧ t.p ≤ (s.ho.length : Int) - 1 then (if (isT t.t ∧ 0 ≤ t.w ∧ t.w ≤ 100000000) ∧ isN t.o then 0 else 2) else 6 := by
    rw [stF, h]
    by_cases h1 : 0 ≤ t.p ∧ t.p ≤ (s.ho.length : Int) - 1
    · rw [if_pos h1, unl, decide_eq_true h1]
      by_cases h2 : (isT t.t ∧ 0 ≤ t.w ∧ t.w ≤ 100000000) ∧ isN t.o
      · rw [if_pos h2, stN, unl, decide_eq_true h2]; rfl
      · rw [if_neg h2, stN, unl, decide_eq_false h2]; rfl
    · rw [if_neg h1, unl, decide_eq_false h1]; rfl
  rw [stE, e, rsE]
  by_cases h1 : 0 ≤ t.p ∧ t.p ≤ (s.ho.length : Int) - 1
  · by_cases h2 : (isT t.t ∧ 0 ≤ t.w ∧ t.w ≤ 100000000) ∧ isN t.o
    · simp only [if_pos h1, if_pos h2]; rfl
    · simp only [if_pos h1, if_neg h2]; rfl
  · simp only [if_neg h1]; rfl
theorem C139 {s : Si} {t : St8} : (SiSm s ∧ t.d.length ≤ 1000000) → PFD Tryz.prog 139 [siv s, stv t] (.tup [vi .i64 (rsE s t).1, vi .i64 (rsE s t).2]) := fun ⟨hs, ht⟩ => by
  have hho := hs.ho
  have htk := hs.tk
  obtain ⟨q, hq⟩ : ∃ q, q = rsE s t := ⟨_, rfl⟩
  rw [← hq]
  rw [rsE] at hq
  refine pi2 fn139 ?_
  (repeat' first | (refine Owe.same ?_; first | refine Owe.o ?_ | refine Owe.mk ?_ ?_) | (refine Fork.same ?_; (first | refine fkD ?_ ?_ | refine fkN ?_ ?_ | refine fkM ?_ ?_) <;> intro h) | ((first | refine OpsL.same ?_ | refine OpsDL.same ?_); first | refine pK C46 rfl rfl ?_ | refine pK C119 rfl rfl ?_ | refine pK C118 rfl rfl ?_) | refine MvQ.stay ?_)
  · rw [if_neg h] at hq; subst hq; (refine rqK rfl ?_; (repeat' first | exact rfl | (refine qS ?_; constructor)))
  · rename_i h1
    rw [if_pos h1, if_neg (fun hh => h hh.1.1)] at hq; subst hq; (refine rqK rfl ?_; (repeat' first | exact rfl | (refine qS ?_; constructor)))
  · rename_i h1 h2
    rw [if_pos h1, if_neg (fun hh => h hh.1.2)] at hq; subst hq; (refine rqK rfl ?_; (repeat' first | exact rfl | (refine qS ?_; constructor)))
  · rename_i h1 h2 h3
    rw [if_pos h1, if_neg (fun hh => h hh.2)] at hq; subst hq; (refine rqK rfl ?_; (repeat' first | exact rfl | (refine qS ?_; constructor)))
  · rename_i h1 h2 h3
    rw [if_pos h1, if_pos ⟨⟨h2, h3⟩, h⟩] at hq
    clear h h1 h2 h3
    (repeat' first | (refine Owe.same ?_; first | refine Owe.o ?_ | refine Owe.mk ?_ ?_) | (refine Fork.same ?_; (first | refine fkD ?_ ?_ | refine fkN ?_ ?_ | refine fkM ?_ ?_) <;> intro h) | refine MvQ.stay ?_)
    refine Sat.lp0 (fun k : Nat => [(6, vi .i64 k), (2, .c (.rp (siD s))), (3, .c (.rp (stD t)))]) (fun k => k ≤ t.d.length ∧ ∀ i, i < k → ascN t.d s.tk.length i = 0) (fun k => t.d.length - k) 0 ⟨Nat.zero_le _, fun i hi => by omega⟩ (by ((first | refine qen ?_ | refine qvs ?_ | refine qeq ?_ | refine qst ?_ | refine qv ?_ | refine qc ?_ | refine qe ?_ | refine qcs ?_ | skip); (repeat' first | exact rfl | (refine qS ?_; constructor)))) ?_
    intro k hk
    refine Fork.dec (fun hlt => ?_) (fun hlt => ?_)
    · have hlt : k < t.d.length := by omega
      have hr : ∀ {e}, ascN t.d s.tk.length k = e → ¬ e = 0 → q = ((k : Int), e) := fun he h2 => by
        rw [hq, ascE, eachN_e hlt hk.2 (by rw [he]; exact h2), he]
      have c1 := C216 (s := s) (n := t.d.getD k 0) htk
      (repeat' first | (refine Owe.same ?_; first | refine Owe.o ?_ | refine Owe.mk ?_ ?_) | (refine Fork.same ?_; (first | refine fkD ?_ ?_ | refine fkN ?_ ?_ | refine fkM ?_ ?_) <;> intro h) | ((first | refine OpsL.same ?_ | refine OpsDL.same ?_); first | refine pK c1 rfl rfl ?_) | refine MvQ.stay ?_)
      · have hx := hr (ascN_6 h) (by decide)
        subst hx
        (refine rqK rfl ?_; (repeat' first | exact rfl | (refine qS ?_; constructor)))
      · have hx := hr (ascN_9 ‹_› (by omega) (by rw [show k - 1 = ((k : Int) - 1).toNat by omega]; exact h)) (by decide)
        subst hx
        (refine rqK rfl ?_; (repeat' first | exact rfl | (refine qS ?_; constructor)))
      · have h0 := ascN_0 (l := t.d) (b := s.tk.length) (j := k) ‹_› (fun _ => by
          have h : ¬ t.d.getD k 0 ≤ t.d.getD ((k : Int) - 1).toNat 0 := h
          rw [show k - 1 = ((k : Int) - 1).toNat by omega]; omega)
        exact again0 (k + 1) ⟨hlt, succ_all hk.2 h0⟩ (by omega) (by ((first | refine qen ?_ | refine qvs ?_ | refine qeq ?_ | refine qst ?_ | refine qv ?_ | refine qc ?_ | refine qe ?_ | refine qcs ?_ | skip); (repeat' first | exact rfl | (refine qS ?_; constructor))))
      · have h0 := ascN_0 (l := t.d) (b := s.tk.length) (j := k) ‹_› (fun hh => by omega)
        exact again0 (k + 1) ⟨hlt, succ_all hk.2 h0⟩ (by omega) (by ((first | refine qen ?_ | refine qvs ?_ | refine qeq ?_ | refine qst ?_ | refine qv ?_ | refine qc ?_ | refine qe ?_ | refine qcs ?_ | skip); (repeat' first | exact rfl | (refine qS ?_; constructor))))
    · have : k = t.d.length := by omega
      subst this
      rw [ascE, eachN_z hk.2] at hq
      subst hq
      (repeat' first | (refine Owe.same ?_; first | refine Owe.o ?_ | refine Owe.mk ?_ ?_) | (refine Fork.same ?_; (first | refine fkD ?_ ?_ | refine fkN ?_ ?_ | refine fkM ?_ ?_) <;> intro h) | refine MvQ.stay ?_)
      (refine rqK rfl ?_; (repeat' first | exact rfl | (refine qS ?_; constructor)))
theorem C60 {s : Si} : SiSm s → PFD Tryz.prog 60 [siv s] (vi .i64 (siE s).2) := fun hs => by
  have c1 := C138 hs
  refine pi1 fn60 ?_
  (repeat' first | (refine Owe.same ?_; first | refine Owe.o ?_ | refine Owe.mk ?_ ?_) | (refine Fork.same ?_; (first | refine fkD ?_ ?_ | refine fkN ?_ ?_ | refine fkM ?_ ?_) <;> intro h) | ((first | refine OpsL.same ?_ | refine OpsDL.same ?_); first | refine pK c1 rfl rfl ?_) | refine MvQ.stay ?_)
  (refine rqK rfl ?_; (repeat' first | exact rfl | (refine qS ?_; constructor)))
theorem C61 {s : Si} {t : St8} : (SiSm s ∧ t.d.length ≤ 1000000) → PFD Tryz.prog 61 [siv s, stv t] (vi .i64 (rsE s t).2) := fun hs => by
  have c1 := C139 hs
  refine pi1 fn61 ?_
  (repeat' first | (refine Owe.same ?_; first | refine Owe.o ?_ | refine Owe.mk ?_ ?_) | (refine Fork.same ?_; (first | refine fkD ?_ ?_ | refine fkN ?_ ?_ | refine fkM ?_ ?_) <;> intro h) | ((first | refine OpsL.same ?_ | refine OpsDL.same ?_); first | refine pK c1 rfl rfl ?_) | refine MvQ.stay ?_)
  (refine rqK rfl ?_; (repeat' first | exact rfl | (refine qS ?_; constructor)))
theorem onE_eq {s : Si} {t : St8} (h : (siE s).2 = 0) : onE s t = (rsE s t).2 := by
  rw [onE, fstE, if_pos h, fstE, rsE_eq h]
  split
  · rename_i h; rw [h]; rfl
  · rfl
abbrev sameB (a b : St8) : Bool := decide (a.p = b.p ∧ a.t = b.t ∧ a.w = b.w ∧ a.o = b.o ∧ a.d = b.d)
theorem C43 {a b : St8} : a.d.length < 4611686018427387904 → PFD Tryz.prog 43 [stv a, stv b] (vbl (sameB a b)) := fun h => by
  have c1 := C44 (l := a.d) (m := b.d) h
  refine pi1 fn43 ?_
  (repeat' first | (refine Owe.same ?_; first | refine Owe.o ?_ | refine Owe.mk ?_ ?_) | (refine Fork.same ?_; (first | refine fkD ?_ ?_ | refine fkN ?_ ?_ | refine fkM ?_ ?_) <;> intro h) | ((first | refine OpsL.same ?_ | refine OpsDL.same ?_); first | refine pK c1 rfl rfl ?_) | refine MvQ.stay ?_)
  all_goals ((refine rqK rfl ?_; (repeat' first | exact rfl | (refine qS ?_; constructor))); simp only [sameB, decide_eq_decide, decide_eq_false_iff_not, decide_eq_true_eq]; simp_all)
theorem DI.take {l : List Int} {k : Nat} {f : Nat → List D} (hk : k ≤ l.length) (hf : ∀ i, i < k → f i = r1 (l.getD i 0)) : DI (.sl 1 k f) (intsD (l.take k)) := by
  have e : (l.take k).length = k := by rw [List.length_take]; omega
  show DI _ (.sl 1 (l.take k).length _)
  rw [e]
  refine DI.sl fun i hi => ?_
  have e2 : (l.take k).getD i 0 = l.getD i 0 := by simp only [List.getD_eq_getElem?_getD, List.getElem?_take, hi, if_true]
  rw [hf i hi, e2]
  exact DIs.refl _
theorem DI.drop {l : List Int} {k m : Nat} {f : Nat → List D} (hm : m = l.length - k) (hf : ∀ i, i < m → f i = r1 (l.getD (k + i) 0)) : DI (.sl 1 m f) (intsD (l.drop k)) := by
  subst hm
  show DI _ (.sl 1 (l.drop k).length _)
  rw [List.length_drop]
  refine DI.sl fun i hi => ?_
  have e2 : (l.drop k).getD i 0 = l.getD (k + i) 0 := by simp only [List.getD_eq_getElem?_getD, List.getElem?_drop]
  rw [hf i hi, e2]
  exact DIs.refl _
abbrev nuN (s : Si) (l : List Int) (i : Nat) : Int := fstE [unl (0 ≤ l.getD i 0 ∧ l.getD i 0 ≤ (s.tk.length : Int) - 1) 6, unb (!decide (l.getD i 0 ∈ l.take i)) 23]
def nuE (s : Si) (l : List Int) : Int := (eachN (nuN s l) 0 l.length).2
theorem nuE_ok {s : Si} {l : List Int} : nuE s l = 0 ↔ tkNs s l ∧ l.Nodup := by
  rw [nuE, eachN_ok]
  constructor
  · intro h
    have h1 : ∀ i, i < l.length → (0 ≤ l.getD i 0 ∧ l.getD i 0 ≤ (s.tk.length : Int) - 1) ∧ l.getD i 0 ∉ l.take i := fun i hi => by
      have := h i hi
      rw [nuN, fst2, unl0 (by decide), unb_ok (by decide)] at this
      exact ⟨this.1, by simpa using this.2⟩
    refine ⟨fun i hi => by have := (h1 i hi).1; omega, ?_⟩
    rw [List.nodup_iff_pairwise_ne, List.pairwise_iff_getElem]
    intro i j hi hj hij e
    refine (h1 j hj).2 ?_
    rw [List.getD_eq_getElem?_getD, List.getElem?_eq_getElem hj]
    show l[j] ∈ _
    rw [← e]
    have h2 : (l.take j)[i]? = some l[i] := by rw [List.getElem?_take, if_pos hij, List.getElem?_eq_getElem hi]
    exact List.mem_of_getElem? h2
  · rintro ⟨h1, h2⟩ i hi
    rw [nuN, fst2, unl0 (by decide), unb_ok (by decide)]
    refine ⟨by have := h1 i hi; omega, ?_⟩
    rw [Bool.not_eq_true', decide_eq_false_iff_not]
    intro hm
    obtain ⟨j, hj, e⟩ := List.getElem_of_mem hm
    rw [List.length_take] at hj
    rw [List.getElem_take, List.getD_eq_getElem?_getD, List.getElem?_eq_getElem hi] at e
    rw [List.nodup_iff_pairwise_ne, List.pairwise_iff_getElem] at h2
    exact h2 j i (by omega) hi (by omega) e
abbrev dnB (t : St8) (l : List Int) : Bool := l.any fun n => decide (n ∈ t.d)
theorem SetOk.of {s : Si} {t : St8} {l : List Int} (h : nuE s l = 0) (h1 : dnB t l = false) : SetOk s t l where
  n := (nuE_ok.1 h).1
  u := (nuE_ok.1 h).2
  d := fun x hx => by have := List.any_eq_false.1 h1 x hx; simpa using this
theorem fltL_mem {p : Nat → Bool} {n k : Nat} : (k : Int) ∈ fltL p n ↔ k < n ∧ p k = true := by
  rw [fltL, List.mem_map]
  constructor
  · rintro ⟨i, hi, he⟩
    have : i = k := by omega
    subst this
    exact ⟨List.mem_range.1 (List.mem_filter.1 hi).1, (List.mem_filter.1 hi).2⟩
  · rintro ⟨h1, h2⟩
    exact ⟨k, List.mem_filter.2 ⟨List.mem_range.2 h1, h2⟩, rfl⟩
theorem fltL_asc {p : Nat → Bool} {n : Nat} : (fltL p n).Pairwise (· < ·) := by
  rw [fltL, List.pairwise_map]
  refine List.Pairwise.filter _ ?_
  exact List.pairwise_lt_range.imp fun h => Int.ofNat_lt.2 h
abbrev subL (n b : Nat) : List Int := fltL (fun i => b.testBit i) n
theorem subL_mem {n b : Nat} {x : Int} (h : x ∈ subL n b) : 0 ≤ x ∧ x < n := by
  simp only [subL, fltL, List.mem_map, List.mem_filter, List.mem_range] at h
  obtain ⟨i, ⟨h1, _⟩, rfl⟩ := h
  omega
theorem subL_nd {n b : Nat} : (subL n b).Nodup := by
  rw [List.nodup_iff_pairwise_ne]
  exact fltL_asc.imp fun h => by omega
theorem SetOk.sub {s : Si} {t : St8} {b : Nat} (h : dnB t (subL s.tk.length b) = false) : SetOk s t (subL s.tk.length b) where
  n := fun i hi => subL_mem (getD_mem 0 hi)
  u := subL_nd
  d := fun x hx => by have := List.any_eq_false.1 h x hx; simpa using this
abbrev exSi : Si := ⟨[⟨⟨#[118, 97, 108, 118, 101]⟩, 1, 20, 30, 4, 50, 0, 300, []⟩, ⟨⟨#[112, 114, 111, 98, 101]⟩, 2, 10, 10, 1, 30, 80, 90, []⟩, ⟨⟨#[99, 108, 111, 115, 101]⟩, 1, 10, 20, 2, 40, 0, 400, [0]⟩], [[0, 10, 20], [10, 0, 10], [20, 10, 0]], [30, 40, 50], [(100, 199, 5)], 1, 2, 20, 400⟩
abbrev exSt : St8 := ⟨0, 0, 300, 6, []⟩
abbrev exSt1 : St8 := ⟨1, 30, 250, 2, [0]⟩
theorem PFD.res {P : Program} {f : FuncId} {args : List V} {v v' : V} (h : PFD P f args v) (hr : RI v v') : PFD P f args v' :=
  ⟨h.h.1, h.h.2.1, fun Γ w us h1 h2 h3 => (h.h.2.2 Γ w us h1 h2 h3).mono fun e w' ⟨u, Γ', q1, q2, q3⟩ => ⟨u, Γ', q1, hr _ _ _ q2, q3⟩⟩
theorem DI.nil (s : Nat) (f : Nat → List D) : DI (.v (.slice none 0 0)) (.sl s 0 f) := fun I w u h => by
  cases h; exact .slE _ _ _ _
abbrev litD (s : Nat) (l : List (List D)) : D := .sl s l.length fun i => l.getD i []
theorem DI.lit {s : Nat} {l : List (List D)} {g : Nat → List D} (h : ∀ i, i < l.length → DIs (l.getD i []) (g i)) : DI (litD s l) (.sl s l.length g) := DI.sl h
abbrev exRaw : List D := [litD 9 [[.v (.string ⟨#[118, 97, 108, 118, 101]⟩), dI 1, dI 20, dI 30, dI 4, dI 50, dI 0, dI 300, .v (.slice none 0 0)], [.v (.string ⟨#[112, 114, 111, 98, 101]⟩), dI 2, dI 10, dI 10, dI 1, dI 30, dI 80, dI 90, .v (.slice none 0 0)], [.v (.string ⟨#[99, 108, 111, 115, 101]⟩), dI 1, dI 10, dI 20, dI 2, dI 40, dI 0, dI 400, litD 1 [[dI 0]]]],
  litD 1 [[litD 1 [[dI 0], [dI 10], [dI 20]]], [litD 1 [[dI 10], [dI 0], [dI 10]]], [litD 1 [[dI 20], [dI 10], [dI 0]]]], litD 1 [[dI 30], [dI 40], [dI 50]], litD 3 [[dI 100, dI 199, dI 5]], dI 1, dI 2, dI 20, dI 400]
theorem DIs.of {ds es : List D} (h : ds = es) : DIs ds es := h ▸ DIs.refl ds
theorem ex3I {a b c : Int} : DI (litD 1 [[dI a], [dI b], [dI c]]) (intsD [a, b, c]) := DI.sl fun i hi => by
  match i, hi with
  | 0, _ => exact DIs.refl _
  | 1, _ => exact DIs.refl _
  | 2, _ => exact DIs.refl _
theorem C107 : PFD Tryz.prog 107 [] (siv exSi) := by
  refine PFD.res (v := .agg [.d (litD 9 [[.v (.string ⟨#[118, 97, 108, 118, 101]⟩), dI 1, dI 20, dI 30, dI 4, dI 50, dI 0, dI 300, .v (.slice none 0 0)], [.v (.string ⟨#[112, 114, 111, 98, 101]⟩), dI 2, dI 10, dI 10, dI 1, dI 30, dI 80, dI 90, .v (.slice none 0 0)], [.v (.string ⟨#[99, 108, 111, 115, 101]⟩), dI 1, dI 10, dI 20, dI 2, dI 40, dI 0, dI 400, litD 1 [[dI 0]]]]), .d (litD 1 [[litD 1 [[dI 0], [dI 10], [dI 20]]], [litD 1 [[dI 10], [dI 0], [dI 10]]], [litD 1 [[dI 20], [dI 10], [dI 0]]]]), .d (litD 1 [[dI 30], [dI 40], [dI 50]]), .d (litD 3 [[dI 100, dI 199, dI 5]]), .d (dI 1), .d (dI 2), .d (dI 20), .d (dI 400)]) ?_ (RI.aggI (ds := exRaw) (es := siD exSi) ?_)
  · refine pi1 fn107 ?_
    (repeat' first | (refine Owe.same ?_; first | refine Owe.o ?_ | refine Owe.mk ?_ ?_) | (refine Fork.same ?_; (first | refine fkD ?_ ?_ | refine fkN ?_ ?_ | refine fkM ?_ ?_) <;> intro h) | refine MvQ.stay ?_)
    (refine rqK rfl ?_; (repeat' first | exact rfl | (refine qS ?_; constructor)))
  · refine .cons (DI.sl fun i hi => ?_) (.cons (DI.sl fun i hi => ?_) (.cons ex3I (.cons (DI.sl fun i hi => ?_) (DIs.refl _))))
    · match i, hi with
      | 0, _ => exact .cons (DI.refl _) (.cons (DI.refl _) (.cons (DI.refl _) (.cons (DI.refl _) (.cons (DI.refl _) (.cons (DI.refl _) (.cons (DI.refl _) (.cons (DI.refl _) (.cons (DI.nil _ _) .nil))))))))
      | 1, _ => exact .cons (DI.refl _) (.cons (DI.refl _) (.cons (DI.refl _) (.cons (DI.refl _) (.cons (DI.refl _) (.cons (DI.refl _) (.cons (DI.refl _) (.cons (DI.refl _) (.cons (DI.nil _ _) .nil))))))))
      | 2, _ => exact .cons (DI.refl _) (.cons (DI.refl _) (.cons (DI.refl _) (.cons (DI.refl _) (.cons (DI.refl _) (.cons (DI.refl _) (.cons (DI.refl _) (.cons (DI.refl _) (.cons (DI.sl fun i hi => by
          match i, hi with
          | 0, _ => exact DIs.refl _) .nil))))))))
    · match i, hi with
      | 0, _ => exact .cons ex3I .nil
      | 1, _ => exact .cons ex3I .nil
      | 2, _ => exact .cons ex3I .nil
    · match i, hi with
      | 0, _ => exact DIs.refl _
def grS (s : Si) : Nat → St8 → List Int → List Int × Int → List Int × Int
  | 0, _, p, b => updP s p b
  | f + 1, t, p, b => (List.range s.tk.length).foldl (fun b (k : Nat) => if spE s t (k : Int) = 0 then grS s f (spS s t (k : Int)) (p ++ [(k : Int)]) b else b) (updP s p b)
theorem grS_eq {s : Si} : ∀ (f : Nat) (t : St8) (p : List Int) (b : List Int × Int), grwF s f t p b = grS s f t p b
  | 0, t, p, b => by rw [grwF, grS]
  | f + 1, t, p, b => by
    have key : ∀ k, grwK s f t p (updP s p b) k = (List.range k).foldl (fun b (k : Nat) => if spE s t (k : Int) = 0 then grS s f (spS s t (k : Int)) (p ++ [(k : Int)]) b else b) (updP s p b) := fun k => by
      induction k with
      | zero => rw [grwK]; rfl
      | succ k ih =>
        rw [grwK, List.range_succ, List.foldl_append, ← ih, grS_eq f]
        rfl
    rw [grwF, grS, key]
theorem C108 : PFD Tryz.prog 108 [] (stv exSt) := by
  refine pi1 fn108 ?_
  (repeat' first | (refine Owe.same ?_; first | refine Owe.o ?_ | refine Owe.mk ?_ ?_) | (refine Fork.same ?_; (first | refine fkD ?_ ?_ | refine fkN ?_ ?_ | refine fkM ?_ ?_) <;> intro h) | refine MvQ.stay ?_)
  (refine rqK rfl ?_; (repeat' first | exact rfl | (refine qS ?_; constructor)))
theorem exSm : SiSm exSi := ⟨by decide, by decide, by decide, by decide, by decide, by decide⟩
theorem ex3 : lrE exSi exSt1 = (170, 0) := by decide +kernel
theorem ex4 : orE exSi exSt = 0 := by decide +kernel
theorem ex5 : bestP exSi exSt = ([0, 2], 90) := by
  rw [bestP, grS_eq]; decide +kernel
end Go.Pw
set_option linter.unusedVariables false
set_option maxHeartbeats 2000000
set_option maxRecDepth 100000
namespace Go.Pw
open Go Go.Proofs
def lc235m : LCode :=
 (zQ [zI 1 (.box (zR 0)), zI 2 (.mv (.const .nilFunc))] (zQ [zI 3 (.mkfn 268 [(zR 1)]), zM 2 3] .ret))
theorem low235m : lowF Tryz.prog [] Tryz.f235 = some (4, lc235m.strip, [.tmp 2]) := by kernel_rfl
theorem fn235m : FnOk Tryz.prog 235 4 lc235m [.tmp 2] := ⟨Tryz.call235, [], _, Tryz.func235, low235m⟩
end Go.Pw
set_option linter.unusedSimpArgs false
set_option linter.unusedVariables false
set_option maxHeartbeats 4000000
namespace Go.Pw
set_option maxRecDepth 2000
open Go Go.Proofs A1 A2 A3 A4
structure Rt where
  lo : Int
  hi : Int
  p : Int
  w : Int
  r : Int
abbrev rtC (x : Rt) : List C := [int x.lo, int x.hi, int x.p, int x.w, int x.r]
abbrev rtv (x : Rt) : V := .agg (rtC x)
abbrev rtD (x : Rt) : List D := [dI x.lo, dI x.hi, dI x.p, dI x.w, dI x.r]
abbrev Wt := Int × Int × Int
abbrev wtC (w : Wt) : List C := [int w.1, int w.2.1, int w.2.2]
abbrev wtv (w : Wt) : V := .agg (wtC w)
abbrev rtP (x : Rt) : Prop := isT x.lo ∧ isT x.hi ∧ (1 ≤ x.p ∧ x.p ≤ 6) ∧ (1 ≤ x.w ∧ x.w ≤ 10000) ∧ isN x.r
def rtE (x : Rt) : Int := if rtP x then (if x.lo ≤ x.hi then 0 else 9) else 2
theorem rtE_of {x : Rt} {b : Bool} (h : b = decide (rtP x)) : fstE [unb b 2, unl (x.lo ≤ x.hi) 9] = rtE x := by
  subst h
  rw [rtE]
  by_cases h1 : rtP x
  · rw [if_pos h1, decide_eq_true h1]
    by_cases h2 : x.lo ≤ x.hi
    · rw [if_pos h2, unl, decide_eq_true h2]; rfl
    · rw [if_neg h2, unl, decide_eq_false h2]; rfl
  · rw [if_neg h1, decide_eq_false h1]; rfl
theorem rtE_ok {x : Rt} (h : rtE x = 0) : rtP x ∧ x.lo ≤ x.hi := by
  rw [rtE] at h
  split at h
  · split at h
    · exact ⟨‹_›, ‹_›⟩
    · cases h
  · cases h
theorem C172 {x : Rt} : PFD Tryz.prog 172 [rtv x] (vi .i64 (rtE x)) := by
  obtain ⟨q, hq⟩ : ∃ q, q = rtE x := ⟨_, rfl⟩
  rw [← hq]
  have hof := fun b h => (@rtE_of x b h).trans hq.symm
  refine pi1 fn172 ?_
  (repeat' first | (refine Owe.same ?_; first | refine Owe.o ?_ | refine Owe.mk ?_ ?_) | (refine Fork.same ?_; (first | refine fkD ?_ ?_ | refine fkN ?_ ?_ | refine fkM ?_ ?_) <;> intro h) | ((first | refine OpsL.same ?_ | refine OpsDL.same ?_); first | refine pK C234 rfl rfl ?_ | refine pK C168 rfl rfl ?_ | refine pK C154 rfl rfl ?_ | refine pK C152 rfl rfl ?_ | refine pK C151 rfl rfl ?_) | refine MvQ.stay ?_)
  all_goals
    (refine rqK rfl ?_; (repeat' first | exact rfl | (refine qS ?_; constructor)))
    refine hof _ ?_
    first
    | (refine (decide_eq_false fun hh => ?_).symm; obtain ⟨g1, g2, g3, g4, g5⟩ := hh; first | exact h g1 | exact h g2 | exact h g3 | exact h g4 | exact h g5)
    | (rw [Bool.eq_iff_iff]; simp_all)
theorem C81 {x : Rt} : PFD Tryz.prog 81 [rtv x] (vi .i64 (rtE x)) := by
  obtain ⟨q, hq⟩ : ∃ q, q = rtE x := ⟨_, rfl⟩
  rw [← hq]
  rw [rtE] at hq
  refine pi1 fn81 ?_
  (repeat' first | (refine Owe.same ?_; first | refine Owe.o ?_ | refine Owe.mk ?_ ?_) | (refine Fork.same ?_; (first | refine fkD ?_ ?_ | refine fkN ?_ ?_ | refine fkM ?_ ?_) <;> intro h) | ((first | refine OpsL.same ?_ | refine OpsDL.same ?_); first | refine pK C119 rfl rfl ?_ | refine pK C46 rfl rfl ?_ | refine pK C118 rfl rfl ?_) | refine MvQ.stay ?_)
  all_goals first
    | (rw [if_neg (by rintro ⟨g1, g2, g3, g4, g5⟩; first | exact h g1 | exact h g2 | exact h g3 | exact h g4 | exact h g5)] at hq
       subst hq
       (refine rqK rfl ?_; (repeat' first | exact rfl | (refine qS ?_; constructor)))
       done)
    | (rw [if_pos ⟨by assumption, by assumption, by assumption, by assumption, by assumption⟩] at hq
       first
       | (rw [if_neg (by omega)] at hq; subst hq; (refine rqK rfl ?_; (repeat' first | exact rfl | (refine qS ?_; constructor))); done)
       | (rw [if_pos (by omega)] at hq; subst hq; (refine rqK rfl ?_; (repeat' first | exact rfl | (refine qS ?_; constructor))); done))
def rsN (l : List Wt) (w : Wt) : Nat → Int × Bool
  | 0 => (0, false)
  | n + 1 => if (l.getD n (0, 0, 0)).1 = w.1 then (w.2.1 - (l.getD n (0, 0, 0)).2.2 - 1, true) else rsN l w n
abbrev wtB (w : Wt) : Prop := (-1000000 ≤ w.2.1 ∧ w.2.1 ≤ 1000000) ∧ -1000000 ≤ w.2.2 ∧ w.2.2 ≤ 1000000
theorem C173 {l : List Wt} {w : Wt} : (l.length ≤ 1000000 ∧ wtB w ∧ ∀ i, i < l.length → wtB (l.getD i (0, 0, 0))) → PFD Tryz.prog 173 [.c (trs l), wtv w] (.tup [vi .i64 (rsN l w l.length).1, vbl (rsN l w l.length).2]) := fun ⟨hl, hw, hb⟩ => by
  obtain ⟨q, hq⟩ : ∃ q, q = rsN l w l.length := ⟨_, rfl⟩
  rw [← hq]
  refine pi2 fn173 ?_
  (repeat' first | (refine Owe.same ?_; first | refine Owe.o ?_ | refine Owe.mk ?_ ?_) | (refine Fork.same ?_; (first | refine fkD ?_ ?_ | refine fkN ?_ ?_ | refine fkM ?_ ?_) <;> intro h) | refine MvQ.stay ?_)
  refine Ops.cs rfl rfl (CallS.of fn235m rfl ?_)
  (repeat' first | (refine Owe.same ?_; first | refine Owe.o ?_ | refine Owe.mk ?_ ?_) | (refine Fork.same ?_; (first | refine fkD ?_ ?_ | refine fkN ?_ ?_ | refine fkM ?_ ?_) <;> intro h) | refine MvQ.stay ?_)
  refine Sat.keep [3, 4, 5, 9] ?_
  refine Sat.rf rfl rfl (CallS.of fn268 rfl ?_)
  (repeat' first | (refine Owe.same ?_; first | refine Owe.o ?_ | refine Owe.mk ?_ ?_) | (refine Fork.same ?_; (first | refine fkD ?_ ?_ | refine fkN ?_ ?_ | refine fkM ?_ ?_) <;> intro h) | refine MvQ.stay ?_)
  refine Sat.lp (fun n : Nat => ⟨[(3, vi .i64 ((n : Int) - 1)), (0, .c (.yd 3)), (1, .c (.bp 2 0))], [(3, .lp [(3, .c (.rp [dI w.1, dI w.2.1, dI w.2.2])), (4, .c (.bp 0 0)), (5, .c (.bp 1 0)), (9, .c (.fn 268 [2]))] .ready none (RR Tryz.prog 25 [10, 11] ra173 rb173)), (2, .box [trs l]), (1, .box [.d (.v (.bool false))]), (0, .box [int 0])], 4⟩)
    (fun n => n ≤ l.length ∧ q = rsN l w n) (fun n => n) l.length [] ⟨Nat.le_refl _, hq⟩ ?_ ?_
  · (refine qis ?_ ?_ <;> (repeat' first | exact rfl | (refine qS ?_; constructor)))
  · intro n ⟨hn, hqn⟩
    match n, hn, hqn with
    | 0, _, hqn =>
      (repeat' first | (refine Owe.same ?_; first | refine Owe.o ?_ | refine Owe.mk ?_ ?_) | (refine Fork.same ?_; (first | refine fkY ?_ | refine fkF ?_ | ((first | refine fkD ?_ ?_ | refine fkN ?_ ?_ | refine fkM ?_ ?_) <;> intro h))) | ((first | refine OpsL.same ?_ | refine OpsDL.same ?_); first | refine oK C152 rfl rfl rfl ?_) | refine MvQ.stay ?_)
      subst hqn
      (refine rqK rfl ?_; (repeat' first | exact rfl | (refine qS ?_; constructor)))
    | m + 1, hn, hqn =>
      have hbm := hb m hn
      rw [rsN] at hqn
      have em : (((m + 1 : Nat) : Int) - 1).toNat = m := by omega
      have hw1 := hw.1
      have hw2 := hbm.2
      rw [← em] at hw2
      (repeat' first | (refine Owe.same ?_; first | refine Owe.o ?_ | refine Owe.mk ?_ ?_) | (refine Fork.same ?_; (first | refine fkY ?_ | refine fkF ?_ | ((first | refine fkD ?_ ?_ | refine fkN ?_ ?_ | refine fkM ?_ ?_) <;> intro h))) | ((first | refine OpsL.same ?_ | refine OpsDL.same ?_); first | refine oK C152 rfl rfl rfl ?_) | refine MvQ.stay ?_)
      (repeat' first | (refine Owe.same ?_; first | refine Owe.o ?_ | refine Owe.mk ?_ ?_) | (refine Fork.same ?_; (first | refine fkD ?_ ?_ | refine fkN ?_ ?_ | refine fkM ?_ ?_) <;> intro h) | refine MvQ.stay ?_)
      refine Ops.yd rfl rfl rfl rfl rfl ?_
      (repeat' first | (refine Owe.same ?_; first | refine Owe.o ?_ | refine Owe.mk ?_ ?_) | (refine Fork.same ?_; (first | refine fkD ?_ ?_ | refine fkN ?_ ?_ | refine fkM ?_ ?_) <;> intro h) | refine MvQ.stay ?_)
      refine And.intro rfl (Exists.intro _ (And.intro rfl ?_))
      (repeat' first | (refine Owe.same ?_; first | refine Owe.o ?_ | refine Owe.mk ?_ ?_) | (refine Fork.same ?_; (first | refine fkD ?_ ?_ | refine fkN ?_ ?_ | refine fkM ?_ ?_) <;> intro h) | refine MvQ.stay ?_)
      · rw [em] at h
        rw [if_pos h] at hqn
        refine Exists.intro _ (Exists.intro _ (Exists.intro _ (And.intro rfl ?_)))
        (repeat' first | (refine Owe.same ?_; first | refine Owe.o ?_ | refine Owe.mk ?_ ?_) | (refine Fork.same ?_; (first | refine fkD ?_ ?_ | refine fkN ?_ ?_ | refine fkM ?_ ?_) <;> intro h) | refine MvQ.stay ?_)
        subst hqn
        (refine rqK rfl ?_; (repeat' first | exact rfl | (refine qS ?_; constructor)))
        rw [em]
      · rw [em] at h
        rw [if_neg h] at hqn
        refine Exists.intro _ (Exists.intro _ (Exists.intro _ (And.intro rfl ?_)))
        (repeat' first | (refine Owe.same ?_; first | refine Owe.o ?_ | refine Owe.mk ?_ ?_) | (refine Fork.same ?_; (first | refine fkD ?_ ?_ | refine fkN ?_ ?_ | refine fkM ?_ ?_) <;> intro h) | refine MvQ.stay ?_)
        refine again m [] ⟨by omega, hqn⟩ (by show m < m + 1; omega) ?_
        (refine qis ?_ ?_ <;> (repeat' first | exact rfl | (refine qS ?_; constructor)))
        all_goals (try omega)
end Go.Pw
set_option linter.unusedVariables false
namespace Go.Pw
open Go Go.RowKit
theorem arg_rota {v : V} (h : Arg true [.int .i64, .int .i64, .int .i64, .int .i64, .int .i64] v) : ∃ x : Rt, v = rtv x := by
  obtain ⟨p, b, t, rfl, _⟩ := arg_post h
  exact ⟨⟨p.1, p.2, b.1, b.2, t⟩, rfl⟩
end Go.Pw
set_option linter.unusedVariables false
set_option maxHeartbeats 2000000
set_option maxRecDepth 100000
namespace Go.Pw
open Go Go.Proofs
def lc162m : LCode :=
 (zQ [zI 2 (.boxS (zR 0)), zI 4 (.mv (.const (.slice none 0 0))), zI 5 (.mv (zK 0))] (zQ [zI 11 (.load true 13 (zR 2)), zI 12 (.lit true 221 13 [(zR 11)]), zM 6 12] (.seq (zQ [zM 13 1, zI 14 (.len (zR 13)), zI 15 (.mv (zK
 0))] (.block 0 (.loop (zQ [zI 16 (.bin .lss (zR 15) (zR 14))] (.seq (.cond (zR 16) .skip (.exit 0)) (.seq (.block 1 (zQ [zI 17 (.idx 1 (zR 13) (zR 15)), zL 18 17, zM 8 18] (zQ [zM 20 6, zM 21 6, zI 22 (.len (zR 21)), zI
 23 (.bin .sub (zR 22) (zK 1)), zI 24 (.idx 13 (zR 20) (zR 23)), zI 25 (.load true 13 (zR 24)), zM 26 8, zI 27 (zC 196 [(zR 25), (zR 26)]), zM 19 27, zI 28 (.ext (zR 19) 0), zI 29 (.ext (zR 19) 1), zI 9 (.alloc [(.slice
 none 0 0), (.slice none 0 0), (.slice none 0 0), (.slice none 0 0), (.int .i64 0), (.int .i64 0), (.int .i64 0), (.int .i64 0), (.int .i64 0), (.int .i64 0), (.int .i64 0), (.int .i64 0), (.slice none 0 0)]), zN (.store
 13 (zR 9) (zR 28)), zM 10 29] (.seq (zQ [zM 30 10, zI 31 (.bin .neq (zR 30) (zK 0))] (.cond (zR 31) (zQ [zM 32 6, zM 33 10, zM 4 32, zM 5 33] .ret) .skip)) (.region [zM 34 6, zI 35 (.load true 13 (zR 9)), zI 36 (.lit
 false 221 13 [(zR 35)]), zI 37 (.append true 221 13 184 (zR 34) (zR 36)), zM 6 37]))))) (.region [zI 38 (.bin .add (zR 15) (zK 1)), zM 15 38]))))))) (zQ [zM 39 6, zM 4 39, zI 5 (.mv (zK 0))] .ret))))
theorem low162m : lowF Tryz.prog [2, 12, 37] Tryz.f162 = some (40, lc162m.strip, [.tmp 4, .tmp 5]) := by kernel_rfl
theorem fn162m : FnOk Tryz.prog 162 40 lc162m [.tmp 4, .tmp 5] := ⟨Tryz.call162, [2, 12, 37], _, Tryz.func162, low162m⟩
end Go.Pw
set_option linter.unusedSimpArgs false
set_option linter.unusedVariables false
set_option maxHeartbeats 4000000
namespace Go.Pw
set_option maxRecDepth 2000
open Go Go.Proofs A1 A2 A3 A4
def stK (s : Si) (t : St8) (l : List Int) : Nat → St8
  | 0 => t
  | k + 1 => spS s (stK s t l k) (l.getD k 0)
def sfK (s : Si) (t : St8) (l : List Int) (k : Nat) : Int := spE s (stK s t l k) (l.getD k 0)
def prE (s : Si) (t : St8) (l : List Int) : Int × Int := eachN (sfK s t l) 0 l.length
theorem stK_ok {s : Si} {t : St8} {l : List Int} (h : OnOk s t) : ∀ {k : Nat}, (∀ i, i < k → sfK s t l i = 0) → OnOk s (stK s t l k)
  | 0, _ => h
  | k + 1, hk => by
    have ih := stK_ok h (k := k) fun i hi => hk i (by omega)
    obtain ⟨⟨e, _⟩, h1, _⟩ := spS_ok ih (hk k (by omega))
    rw [stK, e]; exact h1
abbrev divs (s : Si) (l : List St8) : C := slv 13 (diD s) st0 l
theorem C162 {s : Si} {t : St8} {l : List Int} : (OnOk s t ∧ TkSm s.tk ∧ l.length ≤ 1000) → PFD Tryz.prog 162 [div s t, .c (ints l)] (.tup [.c (divs s (accL (stK s t l) (if (prE s t l).2 = 0 then l.length + 1 else (prE s t l).1.toNat + 1))), vi .i64 (prE s t l).2]) := fun ⟨hO, hs, hl⟩ => by
  obtain ⟨q, hq⟩ : ∃ q, q = prE s t l := ⟨_, rfl⟩
  rw [← hq]
  rw [prE] at hq
  refine pi2 fn162m ?_
  (repeat' first | (refine Owe.same ?_; first | refine Owe.o ?_ | refine Owe.mk ?_ ?_) | (refine Fork.same ?_; (first | refine fkD ?_ ?_ | refine fkN ?_ ?_ | refine fkM ?_ ?_) <;> intro h) | refine MvQ.stay ?_)
  refine Sat.lp (fun k : Nat => ⟨[(15, vi .i64 k), (14, vi .i64 l.length), (13, .c (ints l)), (6, .c (.ms 0 (accL (stK s t l) (k + 1)).length)), (1, .c (ints l)), (2, .c (.rp (diD s t)))], [(0, rowv 221 13 (diD s) st0 (accL (stK s t l) (k + 1)))], 1⟩) (fun k => k ≤ l.length ∧ ∀ i, i < k → sfK s t l i = 0) (fun k => l.length - k) 0 [0] ⟨Nat.zero_le _, fun i hi => by omega⟩ ?_ ?_
  · (refine qis ?_ ?_ <;> (repeat' first | exact rfl | (refine qS ?_; constructor)))
  · intro k hk
    have hkl : (accL (stK s t l) (k + 1)).length = k + 1 := accL_len _ _
    refine Fork.dec (fun hlt => ?_) (fun hlt => ?_)
    · have hlt : k < l.length := by omega
      have hOk := stK_ok hO hk.2
      have e : (accL (stK s t l) (k + 1)).getD ((((accL (stK s t l) (k + 1)).length : Nat) : Int) - 1).toNat st0 = stK s t l k := by
        rw [show ((((accL (stK s t l) (k + 1)).length : Nat) : Int) - 1).toNat = k by omega, List.getD_eq_getElem?_getD]
        simp [accL]
      have c1 := C196 (s := s) (t := stK s t l k) (n := l.getD k 0) ⟨hOk, by have := hOk.dl; have := hOk.ok.n; omega, hs⟩
      have hsf : sfK s t l k = spE s (stK s t l k) (l.getD k 0) := rfl
      have hst : stK s t l (k + 1) = spS s (stK s t l k) (l.getD k 0) := rfl
      have hac : accL (stK s t l) (k + 1 + 1) = accL (stK s t l) (k + 1) ++ [spS s (stK s t l k) (l.getD k 0)] := accL_succ _ _
      generalize spE s (stK s t l k) (l.getD k 0) = E at *
      generalize spS s (stK s t l k) (l.getD k 0) = X at *
      rw [← e] at c1
      (repeat' first | (refine Owe.same ?_; first | refine Owe.o ?_ | refine Owe.mk ?_ ?_) | (refine Fork.same ?_; (first | refine fkD ?_ ?_ | refine fkN ?_ ?_ | refine fkM ?_ ?_) <;> intro h) | ((first | refine OpsL.same ?_ | refine OpsDL.same ?_); first | refine pK c1 rfl rfl ?_) | refine MvQ.stay ?_)
      · have hq : q = ((k : Int), E) := by
          rw [hq, eachN_e hlt hk.2 (by rw [hsf]; exact h), hsf]
        subst hq
        have he : (accL (stK s t l) (if ((k : Int), E).2 = 0 then l.length + 1 else ((k : Int), E).1.toNat + 1)) = accL (stK s t l) (k + 1) := by
          rw [if_neg h]; rfl
        rw [he]
        refine rqF 0 _ rfl rfl rfl ?_; (repeat' first | exact rfl | (refine qS ?_; constructor))
      · have hz : sfK s t l k = 0 := hsf.trans h
        refine again (k + 1) [2] ⟨hlt, succ_all hk.2 hz⟩ (by omega) ?_
        rw [hac]
        (refine qis ?_ ?_ <;> (repeat' first | exact rfl | (refine qS ?_; constructor)))
        · simp
        · exact ⟨X, rfl, rfl⟩
    · have : k = l.length := by omega
      subst this
      rw [eachN_z hk.2] at hq
      subst hq
      (repeat' first | (refine Owe.same ?_; first | refine Owe.o ?_ | refine Owe.mk ?_ ?_) | (refine Fork.same ?_; (first | refine fkD ?_ ?_ | refine fkN ?_ ?_ | refine fkM ?_ ?_) <;> intro h) | refine MvQ.stay ?_)
      refine rqF 0 _ rfl rfl rfl ?_; (repeat' first | exact rfl | (refine qS ?_; constructor))
theorem prE_tk {s : Si} {t : St8} {l : List Int} (hO : OnOk s t) (h : (prE s t l).2 = 0) : tkNs s l := fun k hk => by
  have h1 := eachN_ok.1 h
  have h2 := spS_ok (stK_ok hO (k := k) fun i hi => h1 i (by omega)) (h1 k hk)
  have := h2.1.2.2.2
  omega
def cpE (s : Si) (t : St8) (l : List Int) : Int × Int := if onE s t = 0 then (if (prE s t l).2 = 0 then (vaI s l, 0) else prE s t l) else (0, onE s t)
theorem eachN_i {f : Nat → Int} {n : Nat} (h : ¬ (eachN f 0 n).2 = 0) : ∃ k : Nat, k < n ∧ (∀ i, i < k → f i = 0) ∧ eachN f 0 n = ((k : Int), f k) := by
  have hex : ∀ n, (¬ ∀ k, k < n → f k = 0) → ∃ k, k < n ∧ (∀ i, i < k → f i = 0) ∧ ¬ f k = 0 := fun n => by
    induction n with
    | zero => intro h; exact absurd (fun k hk => by omega) h
    | succ n ih =>
      intro h
      by_cases h1 : ∀ k, k < n → f k = 0
      · by_cases h2 : f n = 0
        · exact absurd (succ_all h1 h2) h
        · exact ⟨n, Nat.lt_succ_self _, h1, h2⟩
      · obtain ⟨k, h2, h3⟩ := ih h1
        exact ⟨k, by omega, h3⟩
  obtain ⟨k, h1, h2, h3⟩ := hex n fun hh => h (eachN_ok.2 hh)
  exact ⟨k, h1, h2, eachN_e h1 h2 h3⟩
theorem C73 {s : Si} {t : St8} {l : List Int} : (SiSm s ∧ t.d.length ≤ 1000 ∧ l.length ≤ 1000) → PFD Tryz.prog 73 [siv s, stv t, .c (ints l)] (.tup [vi .i64 (cpE s t l).1, vi .i64 (cpE s t l).2]) := fun ⟨hs, hd, hl⟩ => by
  have c1 := C156 (s := s) (t := t) ⟨hs, by omega⟩
  obtain ⟨q, hq⟩ : ∃ q, q = cpE s t l := ⟨_, rfl⟩
  rw [← hq]
  rw [cpE] at hq
  by_cases h0 : onE s t = 0
  rotate_left
  · rw [if_neg h0] at hq
    generalize onE s t = e at *
    subst hq
    refine pi2 fn73 ?_
    (repeat' first | (refine Owe.same ?_; first | refine Owe.o ?_ | refine Owe.mk ?_ ?_) | (refine Fork.same ?_; (first | refine fkY ?_ | refine fkF ?_ | ((first | refine fkD ?_ ?_ | refine fkN ?_ ?_ | refine fkM ?_ ?_) <;> intro h))) | ((first | refine OpsL.same ?_ | refine OpsDL.same ?_); first | refine oK c1 rfl rfl rfl ?_) | refine MvQ.stay ?_)
    (refine rqK rfl ?_; (repeat' first | exact rfl | (refine qS ?_; constructor)))
  rw [if_pos h0] at hq
  rw [h0] at c1
  have hO := OnOk.of h0
  have c2 := C162 (s := s) (t := t) (l := l) ⟨hO, hs.t, hl⟩
  by_cases h1 : (prE s t l).2 = 0
  · rw [if_pos h1] at hq
    rw [if_pos h1, h1] at c2
    have c3 := C163 (s := s) (l := l) ⟨hO.ok, prE_tk hO h1, hl⟩
    generalize vaI s l = v at *
    generalize accL (stK s t l) (l.length + 1) = L at *
    subst hq
    refine pi2 fn73 ?_
    (repeat' first | (refine Owe.same ?_; first | refine Owe.o ?_ | refine Owe.mk ?_ ?_) | (refine Fork.same ?_; (first | refine fkY ?_ | refine fkF ?_ | ((first | refine fkD ?_ ?_ | refine fkN ?_ ?_ | refine fkM ?_ ?_) <;> intro h))) | ((first | refine OpsL.same ?_ | refine OpsDL.same ?_); first | refine oK c1 rfl rfl rfl ?_ | refine oK c2 rfl rfl rfl ?_ | refine oK c3 rfl rfl rfl ?_) | refine MvQ.stay ?_)
    (refine rqK rfl ?_; (repeat' first | exact rfl | (refine qS ?_; constructor)))
  · rw [if_neg h1] at hq
    rw [if_neg h1] at c2
    obtain ⟨k, k1, k2, k3⟩ := eachN_i h1
    have k3 : prE s t l = ((k : Int), sfK s t l k) := k3
    rw [k3] at hq c2 h1
    have hL : (accL (stK s t l) (((k : Int), sfK s t l k).1.toNat + 1)).length = k + 1 := accL_len _ _
    generalize accL (stK s t l) (((k : Int), sfK s t l k).1.toNat + 1) = L at *
    generalize sfK s t l k = e at *
    subst hq
    refine pi2 fn73 ?_
    (repeat' first | (refine Owe.same ?_; first | refine Owe.o ?_ | refine Owe.mk ?_ ?_) | (refine Fork.same ?_; (first | refine fkY ?_ | refine fkF ?_ | ((first | refine fkD ?_ ?_ | refine fkN ?_ ?_ | refine fkM ?_ ?_) <;> intro h))) | ((first | refine OpsL.same ?_ | refine OpsDL.same ?_); first | refine oK c1 rfl rfl rfl ?_ | refine oK c2 rfl rfl rfl ?_) | refine MvQ.stay ?_)
    (refine rqK rfl ?_; (repeat' first | exact rfl | (refine qS ?_; constructor)))
    all_goals (try omega)
abbrev stvs (l : List St8) : C := slv 5 stD st0 l
def soE (s : Si) (t : St8) (l : List Int) : List St8 × Int := if onE s t = 0 then (if (prE s t l).2 = 0 then (accL (stK s t l) (l.length + 1), 0) else ([], (prE s t l).2)) else ([], onE s t)
theorem C74 {s : Si} {t : St8} {l : List Int} : (SiSm s ∧ t.d.length ≤ 1000 ∧ l.length ≤ 1000) → PFD Tryz.prog 74 [siv s, stv t, .c (ints l)] (.tup [.c (stvs (soE s t l).1), vi .i64 (soE s t l).2]) := fun ⟨hs, hd, hl⟩ => by
  have c1 := C156 (s := s) (t := t) ⟨hs, by omega⟩
  obtain ⟨q, hq⟩ : ∃ q, q = soE s t l := ⟨_, rfl⟩
  rw [← hq]
  rw [soE] at hq
  by_cases h0 : onE s t = 0
  rotate_left
  · rw [if_neg h0] at hq
    generalize onE s t = e at *
    subst hq
    refine pi2 fn74 ?_
    (repeat' first | (refine Owe.same ?_; first | refine Owe.o ?_ | refine Owe.mk ?_ ?_) | (refine Fork.same ?_; (first | refine fkY ?_ | refine fkF ?_ | ((first | refine fkD ?_ ?_ | refine fkN ?_ ?_ | refine fkM ?_ ?_) <;> intro h))) | ((first | refine OpsL.same ?_ | refine OpsDL.same ?_); first | refine oK c1 rfl rfl rfl ?_) | refine MvQ.stay ?_)
    (refine rqK rfl ?_; (repeat' first | exact rfl | (refine qS ?_; constructor)))
  rw [if_pos h0] at hq
  rw [h0] at c1
  have hO := OnOk.of h0
  have c2 := C162 (s := s) (t := t) (l := l) ⟨hO, hs.t, hl⟩
  by_cases h1 : (prE s t l).2 = 0
  · rw [if_pos h1] at hq
    rw [if_pos h1, h1] at c2
    have hdl : ∀ i, i < (accL (stK s t l) (l.length + 1)).length → ((accL (stK s t l) (l.length + 1)).getD i st0).d.length ≤ 1000 := fun i hi => by
      rw [accL_len] at hi
      have e : (accL (stK s t l) (l.length + 1)).getD i st0 = stK s t l i := by
        rw [List.getD_eq_getElem?_getD]; simp [accL, hi]
      rw [e]
      have h2 := stK_ok hO (k := i) (l := l) fun j hj => eachN_ok.1 h1 j (by omega)
      have := h2.dl
      have := h2.ok.n
      omega
    have hL : (accL (stK s t l) (l.length + 1)).length = l.length + 1 := accL_len _ _
    generalize accL (stK s t l) (l.length + 1) = L at *
    subst hq
    refine pi2 fn74 ?_
    (repeat' first | (refine Owe.same ?_; first | refine Owe.o ?_ | refine Owe.mk ?_ ?_) | (refine Fork.same ?_; (first | refine fkY ?_ | refine fkF ?_ | ((first | refine fkD ?_ ?_ | refine fkN ?_ ?_ | refine fkM ?_ ?_) <;> intro h))) | ((first | refine OpsL.same ?_ | refine OpsDL.same ?_); first | refine oK c1 rfl rfl rfl ?_ | refine oK c2 rfl rfl rfl ?_) | refine MvQ.stay ?_)
    (repeat' first | (refine Owe.same ?_; first | refine Owe.o ?_ | refine Owe.mk ?_ ?_) | (refine Fork.same ?_; (first | refine fkD ?_ ?_ | refine fkN ?_ ?_ | refine fkM ?_ ?_) <;> intro h) | refine MvQ.stay ?_)
    refine Sat.nilS 11 51 5 (fun i => stD (([] : List St8).getD i st0)) rfl ?_
    refine Sat.lp (fun k : Nat => ⟨[(35, vi .i64 k), (34, vi .i64 L.length), (33, .c (divs s L)), (11, .c (.ms 1 (L.take k).length))], [(1, rowv 51 5 stD st0 (L.take k)), (0, .box (diC s t))], 2⟩) (fun k => k ≤ L.length) (fun k => L.length - k) 0 [0, 1] (Nat.zero_le _) ?_ ?_
    · (refine qis ?_ ?_ <;> (repeat' first | exact rfl | (refine qS ?_; constructor)))
    · intro k hk
      have hkl : (L.take k).length = k := by rw [List.length_take]; omega
      refine Fork.dec (fun hlt => ?_) (fun hlt => ?_)
      · have hlt : k < L.length := by omega
        have c3 := C164d (l := (L.getD k st0).d) (by have := hdl k hlt; omega)
        have htk : L.take (k + 1) = L.take k ++ [L.getD k st0] := by
          rw [List.take_add_one, List.getElem?_eq_getElem hlt, List.getD_eq_getElem?_getD, List.getElem?_eq_getElem hlt]; rfl
        (repeat' first | (refine Owe.same ?_; first | refine Owe.o ?_ | refine Owe.mk ?_ ?_) | (refine Fork.same ?_; (first | refine fkD ?_ ?_ | refine fkN ?_ ?_ | refine fkM ?_ ?_) <;> intro h) | ((first | refine OpsL.same ?_ | refine OpsDL.same ?_); first | refine pK c3 rfl rfl ?_) | refine MvQ.stay ?_)
        refine again (k + 1) [0, 4] hlt (by omega) ?_
        rw [htk]
        (refine qis ?_ ?_ <;> (repeat' first | exact rfl | (refine qS ?_; constructor)))
        · simp
        · exact ⟨L.getD k st0, rfl, rfl⟩
      · have : k = L.length := by omega
        subst this
        rw [List.take_length]
        (repeat' first | (refine Owe.same ?_; first | refine Owe.o ?_ | refine Owe.mk ?_ ?_) | (refine Fork.same ?_; (first | refine fkD ?_ ?_ | refine fkN ?_ ?_ | refine fkM ?_ ?_) <;> intro h) | refine MvQ.stay ?_)
        refine rqF 0 _ rfl rfl rfl ?_; (repeat' first | exact rfl | (refine qS ?_; constructor))
  · rw [if_neg h1] at hq
    generalize (accL (stK s t l) (if (prE s t l).2 = 0 then l.length + 1 else (prE s t l).1.toNat + 1)) = L at *
    generalize (prE s t l).2 = e at *
    subst hq
    refine pi2 fn74 ?_
    (repeat' first | (refine Owe.same ?_; first | refine Owe.o ?_ | refine Owe.mk ?_ ?_) | (refine Fork.same ?_; (first | refine fkY ?_ | refine fkF ?_ | ((first | refine fkD ?_ ?_ | refine fkN ?_ ?_ | refine fkM ?_ ?_) <;> intro h))) | ((first | refine OpsL.same ?_ | refine OpsDL.same ?_); first | refine oK c1 rfl rfl rfl ?_ | refine oK c2 rfl rfl rfl ?_) | refine MvQ.stay ?_)
    (refine rqK rfl ?_; (repeat' first | exact rfl | (refine qS ?_; constructor)))
theorem C217 {s : Si} {n a : Int} : (s.ti.length ≤ 1000000 ∧ (∀ k, k < s.ti.length → isN (s.ti.getD k (0, 0, 0)).2.2) ∧ -1000000000 ≤ n ∧ n ≤ 1000000000) → PFD Tryz.prog 217 [siv s, vi .i64 n, vi .i64 a] (vi .i64 (swF s.ti n a)) := fun ⟨hl, hs, hn⟩ => by
  obtain ⟨q, hq⟩ : ∃ q, q = swF s.ti n a := ⟨_, rfl⟩
  rw [← hq]
  rw [swF] at hq
  refine pi1 fn217 ?_
  (repeat' first | (refine Owe.same ?_; first | refine Owe.o ?_ | refine Owe.mk ?_ ?_) | (refine Fork.same ?_; (first | refine fkD ?_ ?_ | refine fkN ?_ ?_ | refine fkM ?_ ?_) <;> intro h) | refine MvQ.stay ?_)
  · rw [if_pos h] at hq; subst hq; (refine rqK rfl ?_; (repeat' first | exact rfl | (refine qS ?_; constructor)))
  · rw [if_neg h] at hq
    refine Sat.lp0 (fun k : Nat => [(7, vi .i64 k), (3, .c (.rp (siD s))), (1, vi .i64 n), (2, vi .i64 a)]) (fun k => k ≤ s.ti.length ∧ q = swL n a (s.ti.drop k)) (fun k => s.ti.length - k) 0 ⟨Nat.zero_le _, hq⟩ (by ((first | refine qen ?_ | refine qvs ?_ | refine qeq ?_ | refine qst ?_ | refine qv ?_ | refine qc ?_ | refine qe ?_ | refine qcs ?_ | skip); (repeat' first | exact rfl | (refine qS ?_; constructor)))) ?_
    intro k hk
    refine Fork.dec (fun hlt => ?_) (fun hlt => ?_)
    · have hlt : k < s.ti.length := by omega
      have h1 : isN (s.ti.getD k (0, 0, 0)).2.2 := hs k hlt
      have e := swL_drop n a s.ti k hlt
      rw [← hk.2] at e
      (repeat' first | (refine Owe.same ?_; first | refine Owe.o ?_ | refine Owe.mk ?_ ?_) | (refine Fork.same ?_; (first | refine fkD ?_ ?_ | refine fkN ?_ ?_ | refine fkM ?_ ?_) <;> intro h) | ((first | refine OpsL.same ?_ | refine OpsDL.same ?_); first | refine pK C46 rfl rfl ?_) | refine MvQ.stay ?_)
      · have h : (s.ti.getD k (0, 0, 0)).1 ≤ a ∧ a ≤ (s.ti.getD k (0, 0, 0)).2.1 := h
        rw [if_pos h] at e; subst e
        (refine rqK rfl ?_; (repeat' first | exact rfl | (refine qS ?_; constructor)))
      · have h : ¬ ((s.ti.getD k (0, 0, 0)).1 ≤ a ∧ a ≤ (s.ti.getD k (0, 0, 0)).2.1) := h
        rw [if_neg h] at e
        exact again0 (k + 1) ⟨hlt, e⟩ (by omega) (by ((first | refine qen ?_ | refine qvs ?_ | refine qeq ?_ | refine qst ?_ | refine qv ?_ | refine qc ?_ | refine qe ?_ | refine qcs ?_ | skip); (repeat' first | exact rfl | (refine qS ?_; constructor))))
    · have e := hk.2
      rw [List.drop_of_length_le (by omega)] at e
      (repeat' first | (refine Owe.same ?_; first | refine Owe.o ?_ | refine Owe.mk ?_ ?_) | (refine Fork.same ?_; (first | refine fkD ?_ ?_ | refine fkN ?_ ?_ | refine fkM ?_ ?_) <;> intro h) | refine MvQ.stay ?_)
      subst e
      (refine rqK rfl ?_; (repeat' first | exact rfl | (refine qS ?_; constructor)))
theorem C140 {s : Si} {t : St8} : DvB s t → PFD Tryz.prog 140 [siv s, stv t] (.agg [int (hmT s t), int (hmT s t * s.swim)]) := fun h => by
  have hb := hmT_bd h
  have h1 := h.pl
  have h2 := h.ok.m
  have h3 := (h.ok.r t.p.toNat (by omega)).1.1
  have h4 := h.ok.e
  have c1 := C217 (s := s) (n := s.ho.getD t.p.toNat 0) (a := t.t) ⟨by omega, fun k hk => (h.ok.u k hk).1.2, by omega⟩
  obtain ⟨n, hn⟩ : ∃ n, n = hmT s t := ⟨_, rfl⟩
  rw [← hn] at hb ⊢
  change PFD Tryz.prog 217 _ (vi .i64 (hmT s t)) at c1
  rw [← hn] at c1
  have hm := mbd (a := n) (A := 20000) (by omega) (b := s.swim) (B := 10000) (by omega)
  refine pi1 fn140 ?_
  (repeat' first | (refine Owe.same ?_; first | refine Owe.o ?_ | refine Owe.mk ?_ ?_) | (refine Fork.same ?_; (first | refine fkD ?_ ?_ | refine fkN ?_ ?_ | refine fkM ?_ ?_) <;> intro h) | ((first | refine OpsL.same ?_ | refine OpsDL.same ?_); first | refine pK c1 rfl rfl ?_) | refine MvQ.stay ?_)
  (refine rqK rfl ?_; (repeat' first | exact rfl | (refine qS ?_; constructor)))
theorem C62 {s : Si} {t : St8} : DvB s t → PFD Tryz.prog 62 [siv s, stv t] (vbl (reB s t)) := fun h => by
  have hb := hmT_bd h
  have h1 := h.tm
  have h2 := h.en
  have h4 := h.ok.e
  have hm := mbd (a := hmT s t) (A := 20000) (by omega) (b := s.swim) (B := 10000) (by omega)
  have c1 := C140 h
  refine pi1 fn62 ?_
  (repeat' first | (refine Owe.same ?_; first | refine Owe.o ?_ | refine Owe.mk ?_ ?_) | (refine Fork.same ?_; (first | refine fkD ?_ ?_ | refine fkN ?_ ?_ | refine fkM ?_ ?_) <;> intro h) | ((first | refine OpsL.same ?_ | refine OpsDL.same ?_); first | refine pK c1 rfl rfl ?_) | refine MvQ.stay ?_)
  · (refine rqK rfl ?_; (repeat' first | exact rfl | (refine qS ?_; constructor)))
    rw [reB]; exact decide_eq_decide.2 ⟨fun hh => ⟨h, hh⟩, fun hh => hh.2⟩
  · (refine rqK rfl ?_; (repeat' first | exact rfl | (refine qS ?_; constructor)))
    have hf : reB s t = false := decide_eq_false fun hh => h hh.1
    exact hf
end Go.Pw
set_option linter.unusedSimpArgs false
set_option linter.unusedVariables false
set_option maxHeartbeats 4000000
namespace Go.Pw
set_option maxRecDepth 2000
open Go Go.Proofs A1 A2 A3 A4
end Go.Pw

set_option linter.unusedSimpArgs false
set_option linter.unusedVariables false
set_option maxHeartbeats 4000000
namespace Go.Pw
set_option maxRecDepth 2000
open Go Go.Proofs A1 A2 A3 A4
theorem OnOk.on {s : Si} {t : St8} (h : OnOk s t) (h0 : (siE s).2 = 0) : onE s t = 0 := by
  rw [onE_eq h0, rsE, if_pos (by have := h.pl; omega), if_pos ⟨⟨h.tm, h.en⟩, h.oil⟩]
  exact h.d
theorem nx_facts {s : Si} {t : St8} {n : Int} (h : OnOk s t) (he : spE s t n = 0) :
    (OnOk s (spS s t n) ∧ reB s (spS s t n) = true) ∧ t.t ≤ (spS s t n).t ∧ (spS s t n).w ≤ t.w ∧ (spS s t n).o ≤ t.o ∧ (spS s t n).d.length = t.d.length + 1 ∧ n ∉ t.d ∧ ∀ m, m ∈ (spS s t n).d ↔ m = n ∨ m ∈ t.d := by
  obtain ⟨⟨e, h1, h2, h3⟩, h4, h5⟩ := spS_ok h he
  rw [e]
  have hB := (h.ok.t n.toNat (by omega)).b
  have hsw := trT_bd (p := (tkA s n).p) h
  have h7 := h.ok.e
  obtain ⟨b5, b6, b7, b8, b9, b10⟩ := hB
  have m2 : 0 ≤ trT s t (tkA s n).p * s.swim := Int.mul_nonneg hsw.1 (by omega)
  have m3 : 0 ≤ (max (t.t + trT s t (tkA s n).p) (tkA s n).lo - (t.t + trT s t (tkA s n).p)) * s.idle := Int.mul_nonneg (by omega) (by omega)
  rw [spF, fst2, unb_ok (by decide), unb_ok (by decide)] at h2
  have hx : n ∉ t.d := by simpa using h2.1
  have hr : reB s (nxS s t n) = true := by
    rw [nxE, nxF, fst3, unl0 (by decide), unl0 (by decide), unb_ok (by decide)] at h1
    exact h1.2.2
  refine ⟨⟨h4, hr⟩, ?_, ?_, ?_, h5, hx, fun m => insI_mem⟩
  · show t.t ≤ max (t.t + trT s t (tkA s n).p) (tkA s n).lo + (tkA s n).d
    simp only [tkA] at *
    omega
  · show t.w - (trT s t (tkA s n).p * s.swim + (max (t.t + trT s t (tkA s n).p) (tkA s n).lo - (t.t + trT s t (tkA s n).p)) * s.idle + (tkA s n).w) ≤ t.w
    simp only [tkA] at *
    omega
  · show t.o - (tkA s n).o ≤ t.o
    simp only [tkA] at *
    omega
theorem stK_drop {s : Si} {t : St8} {l : List Int} (i : Nat) : ∀ j, stK s (stK s t l i) (l.drop i) j = stK s t l (i + j)
  | 0 => rfl
  | j + 1 => by
    rw [stK, stK_drop i j, ← Nat.add_assoc, stK]
    congr 1
    simp only [List.getD_eq_getElem?_getD, List.getElem?_drop]
theorem prE_drop {s : Si} {t : St8} {l : List Int} {i : Nat} (h : ∀ j, j < l.length → sfK s t l j = 0) : (prE s (stK s t l i) (l.drop i)).2 = 0 := by
  rw [prE, eachN_ok]
  intro j hj
  rw [List.length_drop] at hj
  have := h (i + j) (by omega)
  rw [sfK] at this ⊢
  rw [stK_drop]
  have e : (l.drop i).getD j 0 = l.getD (i + j) 0 := by simp only [List.getD_eq_getElem?_getD, List.getElem?_drop]
  rw [e]; exact this
theorem cpE_0 {s : Si} {t : St8} {l : List Int} (h0 : onE s t = 0) (h : (prE s t l).2 = 0) : (cpE s t l).2 = 0 := by rw [cpE, if_pos h0, if_pos h]
theorem C32d {l : List Int} {k : Nat} (h : l.length ≤ 1000000) : PFD Tryz.prog 32 [.c (.d (.sl 1 (l.length - k) fun i => r1 (l.getD (k + i) 0)))] (.c (ints (l.drop k))) :=
  PFD.ri (C32 (l := l.drop k) (by rw [List.length_drop]; omega)) (.cons (RI.cI (DI.drop rfl fun _ _ => rfl)) .nil)
end Go.Pw
set_option linter.unusedSimpArgs false
set_option linter.unusedVariables false
set_option maxHeartbeats 4000000
namespace Go.Pw
set_option maxRecDepth 2000
open Go Go.Proofs A1 A2 A3 A4
end Go.Pw

set_option linter.unusedSimpArgs false
set_option linter.unusedVariables false
set_option maxHeartbeats 4000000
namespace Go.Pw
set_option maxRecDepth 2000
open Go Go.Proofs A1 A2 A3 A4
end Go.Pw

set_option linter.unusedSimpArgs false
set_option linter.unusedVariables false
set_option maxHeartbeats 4000000
namespace Go.Pw
set_option maxRecDepth 2000
open Go Go.Proofs A1 A2 A3 A4
end Go.Pw

set_option linter.unusedVariables false
set_option maxHeartbeats 2000000
set_option maxRecDepth 100000
namespace Go.Pw
open Go Go.Proofs
end Go.Pw

set_option linter.unusedSimpArgs false
set_option linter.unusedVariables false
set_option maxHeartbeats 8000000
namespace Go.Pw
set_option maxRecDepth 2000
open Go Go.Proofs A1 A2 A3 A4
theorem CallD.frz {P : Program} {f : FuncId} {args args' : List V} {v : V} {id nx : Nat} {e : TypeId} {s m n : Nat} {g : Nat → List D} (h : PFD P f args' v) (hn : n ≤ m) (hlen : args.length = args'.length)
    (ha : ∀ (i : Nat) a a', args[i]? = some a → args'[i]? = some a' → (a = .c (.ms id n) ∧ a' = .c (.d (.sl s n g))) ∨ RI a a') : CallD P f args [(id, .row e s m g false)] nx v [] nx := by
  refine ⟨h.h.1, Nat.le_refl _, fun Γ w us hst _ hr => ?_⟩
  have hg : get [(id, Ent.row e s m g false)] id = some (.row e s m g false) := get_cons_same
  obtain ⟨b, hb, hok⟩ := hst.ok id _ hg
  have h1 := hst.freeze hg hb
  have hle : CxLe Γ (Γ.also fun k => k = b ∧ ∃ c, Γ.κ id = some c) := CxLe.also _ _
  have h2 : StoreOk (Γ.also fun k => k = b ∧ ∃ c, Γ.κ id = some c) w [] := storeOk_nil h1.im h1.lay
  have hr' : RepL (Γ.also fun k => k = b ∧ ∃ c, Γ.κ id = some c) w args' us := by
    refine ⟨by rw [hr.1, hlen], fun i a' u ha' hu => ?_⟩
    have hi : i < args.length := by rw [hlen]; exact (List.getElem?_eq_some_iff.1 ha').1
    have hx := hr.2 i args[i] u (List.getElem?_eq_getElem hi) hu
    rcases ha i _ a' (List.getElem?_eq_getElem hi) ha' with ⟨e1, e2⟩ | hri
    · rw [e1] at hx
      subst e2
      cases hx with
      | c _ _ hx =>
        obtain ⟨b', hb', hd⟩ := ms_data hst hg hn hx
        rw [hb] at hb'; cases hb'
        exact .c _ _ (hd _ (fun k hk => .inl hk) (fun hc => .inr ⟨rfl, hc⟩))
    · exact hri _ _ _ (hx.mono hle (fun _ _ => rfl))
  refine (h.h.2.2 _ w us h2 (fun id _ h => absurd h (Nat.not_lt_zero _)) hr').mono fun e' w' ⟨u, Γ', q1, q2, q3, q4, q5, q6⟩ => ⟨u, Γ', q1, q2, q3, hle.trans q4, fun j _ => q5 j (by omega), ?_⟩
  refine Ext.trans (Γ' := Γ.also fun k => k = b ∧ ∃ c, Γ.κ id = some c) (w' := w) (σ' := []) ⟨rfl, rfl, rfl, Nat.le_refl _, fun k hk => .inl hk, fun k hk => ?_, fun _ _ => rfl, fun _ _ => rfl, fun _ _ _ => rfl, fun k hk => absurd hk not_live_nil⟩ q6
  rcases hk with hk | ⟨rfl, hcc⟩
  · exact .inl hk
  · rcases hst.or_live hg hb hcc with h3 | h3
    · exact .inl h3
    · exact .inr (.inr ⟨id, h3, hb⟩)
theorem DI.e {s s' : Nat} {f g : Nat → List D} : DI (.sl s 0 f) (.sl s' 0 g) := fun I w u h => by
  cases h with
  | slE => exact .slE _ _ _ _
  | sl _ _ _ ad c U hn hI hs hc hr => exact .slE _ _ _ _
theorem anyN_ext {f g : Nat → Bool} : ∀ {n : Nat}, (∀ i, i < n → f i = g i) → anyN f n = anyN g n
  | 0, _ => rfl
  | n + 1, h => by rw [anyN, anyN, anyN_ext fun i hi => h i (by omega), h n (by omega)]
end Go.Pw
set_option linter.unusedSimpArgs false
set_option linter.unusedVariables false
set_option maxHeartbeats 8000000
namespace Go.Pw
set_option maxRecDepth 2000
open Go Go.Proofs A1 A2 A3 A4
end Go.Pw

set_option linter.unusedSimpArgs false
set_option linter.unusedVariables false
set_option maxHeartbeats 8000000
namespace Go.Pw
set_option maxRecDepth 2000
open Go Go.Proofs A1 A2 A3 A4
end Go.Pw

set_option linter.unusedSimpArgs false
set_option linter.unusedVariables false
set_option maxHeartbeats 8000000
namespace Go.Pw
set_option maxRecDepth 2000
open Go Go.Proofs A1 A2 A3 A4
mutual
/-- The best plan of those that begin with a plan, of the permitted tasks. -/
def gpF (pm : Nat → Bool) (s : Si) : Nat → St8 → List Int → List Int × Int → List Int × Int
  | 0, _, p, b => updP s p b
  | f + 1, t, p, b => gpK pm s f t p (updP s p b) s.tk.length
def gpK (pm : Nat → Bool) (s : Si) (f : Nat) (t : St8) (p : List Int) (b : List Int × Int) : Nat → List Int × Int
  | 0 => b
  | k + 1 => if pm k = true ∧ spE s t k = 0 then gpF pm s f (spS s t k) (p ++ [(k : Int)]) (gpK pm s f t p b k) else gpK pm s f t p b k
end
abbrev gstp (g : FuncId) (rows : List (List D)) (s : Si) (t0 : St8) (b : List Int × Int) : Store :=
  [(6, .box [.fn 263 [5, 3, 6]]), (5, .box [.yd 4]), (4, .lp [(2, .c (.rp (diD s t0))), (6, .c (.bp 0 0)), (7, .c (.bp 1 0)), (12, .c (.fn 262 [3, 2]))] .ready none (RR Tryz.prog 26 [13] ra142 rb142)), (3, .box [.fnR g rows]), (1, .box [int b.2]), (0, .box [ints b.1])]
theorem G120p {g : FuncId} {rows : List (List D)} {pm : Nat → Bool} {s : Si} {t0 : St8} (hg : ∀ k, k < s.tk.length → PFD Tryz.prog g (vi .i64 k :: rows.map fun r => .c (.rp r)) (vbl (pm k))) (hO : SiOk s) (hs : TkSm s.tk) (hst : ∀ {t : St8} {k : Nat}, OnOk s t → spE s t k = 0 → OnOk s (spS s t k) ∧ (spS s t k).d.length = t.d.length + 1) (hd : ∀ {t : St8}, OnOk s t → t.d.length ≤ s.tk.length) :
    ∀ (f : Nat) (t : St8) (p : List Int) (b : List Int × Int), OnOk s t → s.tk.length + 1 ≤ f + t.d.length → tkNs s p → p.length + s.tk.length ≤ 100 + t.d.length →
      CallD Tryz.prog 263 [div s t, .c (ints p), .c (.bp 5 0), .c (.bp 3 0), .c (.bp 6 0)] (gstp g rows s t0 b) 7 (.c .tru) (gstp g rows s t0 (gpF pm s f t p b)) 7
  | 0, t, p, b, h, hf, _, _ => by have := hd h; omega
  | f + 1, t, p, b, h, hf, hp, hl => by
    have h6 := hO.n
    have hdl := hd h
    have HO := h
    have c1 := C163 (s := s) (l := p) ⟨hO, hp, by omega⟩
    refine CallD.of (vs := [.c .tru]) fn263m rfl rfl (by (refine qis ?_ ?_ <;> (repeat' first | exact rfl | (refine qS ?_; constructor)))) ?_
    refine Ops.yd rfl rfl rfl rfl rfl ?_
    (repeat' first | (refine Owe.same ?_; first | refine Owe.o ?_ | refine Owe.mk ?_ ?_) | (refine Fork.same ?_; (first | refine fkD ?_ ?_ | refine fkN ?_ ?_ | refine fkM ?_ ?_) <;> intro h) | refine MvQ.stay ?_)
    refine And.intro rfl (Exists.intro _ (And.intro rfl ?_))
    (repeat' first | (refine Owe.same ?_; first | refine Owe.o ?_ | refine Owe.mk ?_ ?_) | (refine Fork.same ?_; (first | refine fkD ?_ ?_ | refine fkN ?_ ?_ | refine fkM ?_ ?_) <;> intro h) | ((first | refine OpsL.same ?_ | refine OpsDL.same ?_); first | refine pK c1 rfl rfl ?_ | refine pK (C164d (l := p) (by omega)) rfl rfl ?_) | refine MvQ.stay ?_)
    · rename_i h0
      have e : updP s p b = (p, vaI s p) := if_pos h
      refine Exists.intro _ (Exists.intro _ (Exists.intro _ (And.intro rfl ?_)))
      (repeat' first | (refine Owe.same ?_; first | refine Owe.o ?_ | refine Owe.mk ?_ ?_) | (refine Fork.same ?_; (first | refine fkD ?_ ?_ | refine fkN ?_ ?_ | refine fkM ?_ ?_) <;> intro h) | refine MvQ.stay ?_)
      refine Sat.lp (fun ((k, B) : Nat × List Int × Int) => ⟨[(19, vi .i64 k), (18, vi .i64 s.tk.length), (5, .c (.rp (diD s t))), (1, .c (ints p)), (2, .c (.bp 5 0)), (3, .c (.bp 3 0)), (4, .c (.bp 6 0))], gstp g rows s t0 B, 7⟩) (fun ((k, B) : Nat × List Int × Int) => k ≤ s.tk.length ∧ B = gpK pm s f t p (p, vaI s p) k) (fun ((k, _) : Nat × List Int × Int) => s.tk.length - k) (0, (p, vaI s p)) [] ⟨Nat.zero_le _, by rw [gpK]⟩ ?_ ?_
      · (refine qis ?_ ?_ <;> (repeat' first | exact rfl | (refine qS ?_; constructor)))
      · intro ⟨k, B⟩ ⟨hk, hB⟩
        refine Fork.dec (fun hlt => ?_) (fun hlt => ?_)
        · have hlt : k < s.tk.length := by omega
          have c2 := C196 (s := s) (t := t) (n := (k : Int)) ⟨HO, by omega, hs⟩
          obtain ⟨E, hE⟩ : ∃ E, E = spE s t (k : Int) := ⟨_, rfl⟩
          rw [← hE] at c2
          have c3 := C264 (l := p) (by omega)
          have c0 := hg k hlt
          rcases hpm : pm k with _ | _
          · rw [hpm] at c0
            (repeat' first | (refine Owe.same ?_; first | refine Owe.o ?_ | refine Owe.mk ?_ ?_) | (refine Fork.same ?_; (first | refine fkD ?_ ?_ | refine fkN ?_ ?_ | refine fkM ?_ ?_) <;> intro h) | ((first | refine OpsL.same ?_ | refine OpsDL.same ?_); first | refine pR c0 rfl rfl ?_) | refine MvQ.stay ?_)
            rotate_left
            · exact absurd h (by decide)
            have hB2 : B = gpK pm s f t p (p, vaI s p) (k + 1) := by rw [gpK, if_neg (fun hh => by rw [hpm] at hh; cases hh.1), ← hB]
            refine again (k + 1, B) [] ⟨hlt, hB2⟩ (by show s.tk.length - (k + 1) < s.tk.length - k; omega) ?_
            (refine qis ?_ ?_ <;> (repeat' first | exact rfl | (refine qS ?_; constructor)))
          rw [hpm] at c0
          (repeat' first | (refine Owe.same ?_; first | refine Owe.o ?_ | refine Owe.mk ?_ ?_) | (refine Fork.same ?_; (first | refine fkD ?_ ?_ | refine fkN ?_ ?_ | refine fkM ?_ ?_) <;> intro h) | ((first | refine OpsL.same ?_ | refine OpsDL.same ?_); first | refine pR c0 rfl rfl ?_) | refine MvQ.stay ?_)
          · exact absurd h (by decide)
          (repeat' first | (refine Owe.same ?_; first | refine Owe.o ?_ | refine Owe.mk ?_ ?_) | (refine Fork.same ?_; (first | refine fkD ?_ ?_ | refine fkN ?_ ?_ | refine fkM ?_ ?_) <;> intro h) | ((first | refine OpsL.same ?_ | refine OpsDL.same ?_); first | refine pK c2 rfl rfl ?_ | refine pK c3 rfl rfl ?_) | refine MvQ.stay ?_)
          · have hz : spE s t (k : Int) = 0 := hE.symm.trans h
            have h1 := hst HO hz
            have h2 : tkNs s (p ++ [(k : Int)]) := tkNs_app hp ⟨by omega, by omega⟩
            refine OpsDL.cm (gstp g rows s t0 B) _ ((G120p hg hO hs hst hd f (spS s t k) (p ++ [(k : Int)]) B h1.1 (by omega) h2 (by rw [List.length_append]; show p.length + 1 + _ ≤ _; omega)).at _) (sub_cons rfl (sub_cons rfl (sub_cons rfl (sub_cons rfl (sub_cons rfl (sub_cons rfl sub_nil)))))) rfl rfl ?_ ?_
            · refine VEqs.ris (qvs ?_)
              (repeat' first | exact rfl | (refine qS ?_; constructor))
              exact ⟨_, rfl, rfl⟩
            · (repeat' first | (refine Owe.same ?_; first | refine Owe.o ?_ | refine Owe.mk ?_ ?_) | (refine Fork.same ?_; (first | refine fkD ?_ ?_ | refine fkN ?_ ?_ | refine fkM ?_ ?_) <;> intro h) | refine MvQ.stay ?_)
              have hB2 : gpF pm s f (spS s t k) (p ++ [(k : Int)]) B = gpK pm s f t p (p, vaI s p) (k + 1) := by rw [gpK, if_pos ⟨hpm, hz⟩, ← hB]
              refine again (k + 1, _) [] ⟨hlt, hB2⟩ (by show s.tk.length - (k + 1) < s.tk.length - k; omega) ?_
              (refine qis ?_ ?_ <;> (repeat' first | exact rfl | (refine qS ?_; constructor)))
          · have hB2 : B = gpK pm s f t p (p, vaI s p) (k + 1) := by rw [gpK, if_neg (fun hh => h (hE.trans hh.2)), ← hB]
            refine again (k + 1, B) [] ⟨hlt, hB2⟩ (by show s.tk.length - (k + 1) < s.tk.length - k; omega) ?_
            (refine qis ?_ ?_ <;> (repeat' first | exact rfl | (refine qS ?_; constructor)))
        · have hkk : k = s.tk.length := by omega
          have hfin : gpF pm s (f + 1) t p b = B := by rw [gpF, e, ← hkk, hB]
          rw [hfin]
          (repeat' first | (refine Owe.same ?_; first | refine Owe.o ?_ | refine Owe.mk ?_ ?_) | (refine Fork.same ?_; (first | refine fkD ?_ ?_ | refine fkN ?_ ?_ | refine fkM ?_ ?_) <;> intro h) | refine MvQ.stay ?_)
          exact RetQ.is rfl
    · have e : updP s p b = b := if_neg h
      refine Exists.intro _ (Exists.intro _ (Exists.intro _ (And.intro rfl ?_)))
      (repeat' first | (refine Owe.same ?_; first | refine Owe.o ?_ | refine Owe.mk ?_ ?_) | (refine Fork.same ?_; (first | refine fkD ?_ ?_ | refine fkN ?_ ?_ | refine fkM ?_ ?_) <;> intro h) | refine MvQ.stay ?_)
      refine Sat.lp (fun ((k, B) : Nat × List Int × Int) => ⟨[(19, vi .i64 k), (18, vi .i64 s.tk.length), (5, .c (.rp (diD s t))), (1, .c (ints p)), (2, .c (.bp 5 0)), (3, .c (.bp 3 0)), (4, .c (.bp 6 0))], gstp g rows s t0 B, 7⟩) (fun ((k, B) : Nat × List Int × Int) => k ≤ s.tk.length ∧ B = gpK pm s f t p b k) (fun ((k, _) : Nat × List Int × Int) => s.tk.length - k) (0, b) [] ⟨Nat.zero_le _, by rw [gpK]⟩ ?_ ?_
      · (refine qis ?_ ?_ <;> (repeat' first | exact rfl | (refine qS ?_; constructor)))
      · intro ⟨k, B⟩ ⟨hk, hB⟩
        refine Fork.dec (fun hlt => ?_) (fun hlt => ?_)
        · have hlt : k < s.tk.length := by omega
          have c2 := C196 (s := s) (t := t) (n := (k : Int)) ⟨HO, by omega, hs⟩
          obtain ⟨E, hE⟩ : ∃ E, E = spE s t (k : Int) := ⟨_, rfl⟩
          rw [← hE] at c2
          have c3 := C264 (l := p) (by omega)
          have c0 := hg k hlt
          rcases hpm : pm k with _ | _
          · rw [hpm] at c0
            (repeat' first | (refine Owe.same ?_; first | refine Owe.o ?_ | refine Owe.mk ?_ ?_) | (refine Fork.same ?_; (first | refine fkD ?_ ?_ | refine fkN ?_ ?_ | refine fkM ?_ ?_) <;> intro h) | ((first | refine OpsL.same ?_ | refine OpsDL.same ?_); first | refine pR c0 rfl rfl ?_) | refine MvQ.stay ?_)
            rotate_left
            · exact absurd h (by decide)
            have hB2 : B = gpK pm s f t p b (k + 1) := by rw [gpK, if_neg (fun hh => by rw [hpm] at hh; cases hh.1), ← hB]
            refine again (k + 1, B) [] ⟨hlt, hB2⟩ (by show s.tk.length - (k + 1) < s.tk.length - k; omega) ?_
            (refine qis ?_ ?_ <;> (repeat' first | exact rfl | (refine qS ?_; constructor)))
          rw [hpm] at c0
          (repeat' first | (refine Owe.same ?_; first | refine Owe.o ?_ | refine Owe.mk ?_ ?_) | (refine Fork.same ?_; (first | refine fkD ?_ ?_ | refine fkN ?_ ?_ | refine fkM ?_ ?_) <;> intro h) | ((first | refine OpsL.same ?_ | refine OpsDL.same ?_); first | refine pR c0 rfl rfl ?_) | refine MvQ.stay ?_)
          · exact absurd h (by decide)
          (repeat' first | (refine Owe.same ?_; first | refine Owe.o ?_ | refine Owe.mk ?_ ?_) | (refine Fork.same ?_; (first | refine fkD ?_ ?_ | refine fkN ?_ ?_ | refine fkM ?_ ?_) <;> intro h) | ((first | refine OpsL.same ?_ | refine OpsDL.same ?_); first | refine pK c2 rfl rfl ?_ | refine pK c3 rfl rfl ?_) | refine MvQ.stay ?_)
          · have hz : spE s t (k : Int) = 0 := hE.symm.trans h
            have h1 := hst HO hz
            have h2 : tkNs s (p ++ [(k : Int)]) := tkNs_app hp ⟨by omega, by omega⟩
            refine OpsDL.cm (gstp g rows s t0 B) _ ((G120p hg hO hs hst hd f (spS s t k) (p ++ [(k : Int)]) B h1.1 (by omega) h2 (by rw [List.length_append]; show p.length + 1 + _ ≤ _; omega)).at _) (sub_cons rfl (sub_cons rfl (sub_cons rfl (sub_cons rfl (sub_cons rfl (sub_cons rfl sub_nil)))))) rfl rfl ?_ ?_
            · refine VEqs.ris (qvs ?_)
              (repeat' first | exact rfl | (refine qS ?_; constructor))
              exact ⟨_, rfl, rfl⟩
            · (repeat' first | (refine Owe.same ?_; first | refine Owe.o ?_ | refine Owe.mk ?_ ?_) | (refine Fork.same ?_; (first | refine fkD ?_ ?_ | refine fkN ?_ ?_ | refine fkM ?_ ?_) <;> intro h) | refine MvQ.stay ?_)
              have hB2 : gpF pm s f (spS s t k) (p ++ [(k : Int)]) B = gpK pm s f t p b (k + 1) := by rw [gpK, if_pos ⟨hpm, hz⟩, ← hB]
              refine again (k + 1, _) [] ⟨hlt, hB2⟩ (by show s.tk.length - (k + 1) < s.tk.length - k; omega) ?_
              (refine qis ?_ ?_ <;> (repeat' first | exact rfl | (refine qS ?_; constructor)))
          · have hB2 : B = gpK pm s f t p b (k + 1) := by rw [gpK, if_neg (fun hh => h (hE.trans hh.2)), ← hB]
            refine again (k + 1, B) [] ⟨hlt, hB2⟩ (by show s.tk.length - (k + 1) < s.tk.length - k; omega) ?_
            (refine qis ?_ ?_ <;> (repeat' first | exact rfl | (refine qS ?_; constructor)))
        · have hkk : k = s.tk.length := by omega
          have hfin : gpF pm s (f + 1) t p b = B := by rw [gpF, e, ← hkk, hB]
          rw [hfin]
          (repeat' first | (refine Owe.same ?_; first | refine Owe.o ?_ | refine Owe.mk ?_ ?_) | (refine Fork.same ?_; (first | refine fkD ?_ ?_ | refine fkN ?_ ?_ | refine fkM ?_ ?_) <;> intro h) | refine MvQ.stay ?_)
          exact RetQ.is rfl
abbrev bestPp (pm : Nat → Bool) (s : Si) (t : St8) : List Int × Int := gpF pm s (s.tk.length + 1) t [] ([], 0)
theorem C142p {g : FuncId} {rows : List (List D)} {pm : Nat → Bool} {s : Si} {t : St8} (hg : ∀ k, k < s.tk.length → PFD Tryz.prog g (vi .i64 k :: rows.map fun r => .c (.rp r)) (vbl (pm k))) : (OnOk s t ∧ TkSm s.tk) → PFD Tryz.prog 142 [div s t, .c (.fnR g rows)] (.tup [.c (ints (bestPp pm s t).1), vi .i64 (bestPp pm s t).2]) := fun ⟨h, hs⟩ => by
  have h6 := h.ok.n
  have gg := G120p hg (t0 := t) h.ok hs (fun {t' k} h1 h2 => by
    obtain ⟨⟨e, _⟩, h3, h4⟩ := spS_ok h1 h2
    rw [e]; exact ⟨h3, h4⟩) (fun h => h.dl) (s.tk.length + 1) t [] ([], 0) h (by omega) (fun k hk => by cases hk) (by show 0 + _ ≤ _; omega)
  obtain ⟨B, hB⟩ : ∃ B, B = bestPp pm s t := ⟨_, rfl⟩
  change CallD _ _ _ _ _ _ (gstp g rows s t (bestPp pm s t)) _ at gg
  rw [← hB] at gg ⊢
  refine pi2 fn142 ?_
  (repeat' first | (refine Owe.same ?_; first | refine Owe.o ?_ | refine Owe.mk ?_ ?_) | (refine Fork.same ?_; (first | refine fkD ?_ ?_ | refine fkN ?_ ?_ | refine fkM ?_ ?_) <;> intro h) | refine MvQ.stay ?_)
  refine Ops.cs rfl rfl (CallS.of fn218 rfl ?_)
  (repeat' first | (refine Owe.same ?_; first | refine Owe.o ?_ | refine Owe.mk ?_ ?_) | (refine Fork.same ?_; (first | refine fkD ?_ ?_ | refine fkN ?_ ?_ | refine fkM ?_ ?_) <;> intro h) | refine MvQ.stay ?_)
  refine Sat.keep [2, 6, 7, 12] ?_
  refine Sat.rf rfl rfl (CallS.of fn262 rfl ?_)
  (repeat' first | (refine Owe.same ?_; first | refine Owe.o ?_ | refine Owe.mk ?_ ?_) | (refine Fork.same ?_; (first | refine fkD ?_ ?_ | refine fkN ?_ ?_ | refine fkM ?_ ?_) <;> intro h) | refine MvQ.stay ?_)
  refine OpsL.is7 (⟨[(6, .c (.fn 263 [5, 3, 6])), (7, div s t)], [(6, .box [.fn 263 [5, 3, 6]]), (5, .box [.yd 4]), (4, .lp [(2, .c (.rp (diD s t))), (6, .c (.bp 0 0)), (7, .c (.bp 1 0)), (12, .c (.fn 262 [3, 2]))] .ready none (RR Tryz.prog 26 [13] ra142 rb142)), (3, .box [.fnR g rows]), (2, .box (diC s t)), (1, .box [int 0]), (0, .box [ints []])], 7⟩) ?_ ?_
  · (refine qis ?_ ?_ <;> (repeat' first | exact rfl | (refine qS ?_; constructor)))
  refine OpsL.cmi (gstp g rows s t ([], 0)) _ (gg.at _) (sub_cons rfl (sub_cons rfl (sub_cons rfl (sub_cons rfl (sub_cons rfl (sub_cons rfl sub_nil)))))) rfl rfl ?_ ?_
  · refine VEqs.ris (qvs ?_)
    (repeat' first | exact rfl | (refine qS ?_; constructor))
  · (repeat' first | (refine Owe.same ?_; first | refine Owe.o ?_ | refine Owe.mk ?_ ?_) | (refine Fork.same ?_; (first | refine fkD ?_ ?_ | refine fkN ?_ ?_ | refine fkM ?_ ?_) <;> intro h) | refine MvQ.stay ?_)
    (refine rqK rfl ?_; (repeat' first | exact rfl | (refine qS ?_; constructor)))
abbrev pmL (g : List Int) (k : Nat) : Bool := !decide ((k : Int) ∈ g)
theorem gpF_ext {pm pm' : Nat → Bool} {s : Si} (h : ∀ k, k < s.tk.length → pm k = pm' k) : ∀ (f : Nat) (t : St8) (p : List Int) (b : List Int × Int), gpF pm s f t p b = gpF pm' s f t p b
  | 0, t, p, b => by rw [gpF, gpF]
  | f + 1, t, p, b => by
    have key : ∀ k, k ≤ s.tk.length → gpK pm s f t p (updP s p b) k = gpK pm' s f t p (updP s p b) k := fun k => by
      induction k with
      | zero => intro _; rw [gpK, gpK]
      | succ k ih => intro hk; rw [gpK, gpK, ih (by omega), gpF_ext h f, h k (by omega)]
    rw [gpF, gpF, key _ (Nat.le_refl _)]
theorem gpF_all {s : Si} : ∀ (f : Nat) (t : St8) (p : List Int) (b : List Int × Int), gpF (fun _ => true) s f t p b = grwF s f t p b
  | 0, t, p, b => by rw [gpF, grwF]
  | f + 1, t, p, b => by
    have key : ∀ k, gpK (fun _ => true) s f t p (updP s p b) k = grwK s f t p (updP s p b) k := fun k => by
      induction k with
      | zero => rw [gpK, grwK]
      | succ k ih => rw [gpK, grwK, ih, gpF_all f]; simp only [true_and]
    rw [gpF, grwF, key]
theorem bestPp_nil {s : Si} {t : St8} : bestPp (pmL []) s t = bestP s t := by
  rw [bestPp, gpF_ext (pm' := fun _ => true) (fun k _ => by simp [pmL]), gpF_all]
def dpL (s : Si) (n : Int) : Nat → List Bool
  | 0 => []
  | k + 1 => dpL s n k ++ [(s.tk.getD k tk0).a.any fun x => decide (x = n) || (dpL s n k).getD x.toNat false]
theorem dpL_len {s : Si} {n : Int} : ∀ k, (dpL s n k).length = k
  | 0 => rfl
  | k + 1 => by rw [dpL, List.length_append, dpL_len k]; rfl
theorem dpL_get {s : Si} {n : Int} {i : Nat} : ∀ {k m : Nat}, i < k → k ≤ m → (dpL s n m).getD i false = (dpL s n k).getD i false
  | k, 0, h, h1 => by omega
  | k, m + 1, h, h1 => by
    by_cases e : k = m + 1
    · subst e; rfl
    · have hl := dpL_len (s := s) (n := n) m
      rw [dpL, List.getD_eq_getElem?_getD, List.getElem?_append_left (by omega), ← List.getD_eq_getElem?_getD, dpL_get h (by omega)]
abbrev dpB (s : Si) (n : Int) (i : Nat) : Bool := (dpL s n s.tk.length).getD i false
theorem dpL_at {s : Si} {n : Int} {i m : Nat} (hm : i < m) (h : m ≤ s.tk.length) : (dpL s n m).getD i false = dpB s n i := (dpL_get hm h).symm
theorem dpB_eq {s : Si} {n : Int} {i : Nat} (hO : SiOk s) (hi : i < s.tk.length) : dpB s n i = (s.tk.getD i tk0).a.any fun x => decide (x = n) || dpB s n x.toNat := by
  have hl := dpL_len (s := s) (n := n) i
  rw [dpB, dpL_get (k := i + 1) (by omega) (by omega), dpL, List.getD_eq_getElem?_getD, List.getElem?_append_right (by omega), hl, Nat.sub_self]
  show (List.any _ _) = _
  obtain ⟨s1, s2⟩ := Srt.of (hO.t i hi).a
  rw [← anyN_mem, ← anyN_mem]
  refine anyN_ext fun j hj => ?_
  have := s2 j hj
  rw [dpL_at (m := i) (by omega) (by omega)]
theorem dpB_lo {s : Si} {n : Int} (hO : SiOk s) : ∀ (i : Nat), i < s.tk.length → (i : Int) ≤ n → dpB s n i = false := fun i => by
  induction i using Nat.strongRecOn with
  | ind i ih =>
    intro hi hn
    rw [dpB_eq hO hi]
    obtain ⟨s1, s2⟩ := Srt.of (hO.t i hi).a
    refine List.any_eq_false.2 fun x hx => ?_
    obtain ⟨j, hj, e⟩ := List.getElem_of_mem hx
    have h2 := s2 j hj
    rw [List.getD_eq_getElem?_getD, List.getElem?_eq_getElem hj] at h2
    have h2 : 0 ≤ (s.tk.getD i tk0).a[j] ∧ (s.tk.getD i tk0).a[j] ≤ (i : Int) - 1 := h2
    rw [e] at h2
    rw [decide_eq_false (by omega), ih x.toNat (by omega) (by omega) (by omega)]
    decide
abbrev depL (s : Si) (n : Int) (k : Nat) : List Int := fltL (dpB s n) k
end Go.Pw
set_option linter.unusedSimpArgs false
set_option linter.unusedVariables false
set_option maxHeartbeats 8000000
namespace Go.Pw
set_option maxRecDepth 2000
open Go Go.Proofs A1 A2 A3 A4
end Go.Pw

