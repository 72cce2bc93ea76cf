/- Steps toward the row of this claim: part 1 of 6. Proved as named below, on no condition but those that each theorem states. -/
import GoSem.Op.Complex
import GoSem.Op.Unary
import GoSem.Conv.FloatToInt
import GoSem.Conv.IntToFloat
import Derived.WalkKit
import Derived.Lib.ItoaNum
import Derived.RangeFuncLeaves
import Derived.OrdersIn
import Derived.Maps.AppendAt
import Derived.ChangeKeysEq
namespace Go.Pw
open Go
def IsF (b : Nat) (n : Int) : Prop := ∃ (s : Bool) (k : Nat), Ieee.double.read b = .number s (n.natAbs * 2 ^ k) (-(k : Int)) ∧ (n ≠ 0 → s = decide (n < 0))
theorem dbl_sw : Ieee.double.signWeight = 2 ^ 63 := rfl
theorem dbl_bin : Ieee.double.binade = 2 ^ 52 := rfl
theorem dbl_inf : Ieee.double.infRung = 2047 * 2 ^ 52 := rfl
theorem dbl_lp : Ieee.double.leastPlace = -1074 := rfl
theorem dbl_fb : Ieee.double.fractionBits = 52 := rfl
theorem read_word (s : Bool) {e X : Nat} (he : e ≤ 1074) (h1 : 2 ^ 52 ≤ X) (h2 : X < 2 ^ 53) : Ieee.double.read (Ieee.double.word s (e * 2 ^ 52 + X)) = .number s X (e - 1074) := by
  have hr : e * 2 ^ 52 + X < 2 ^ 63 := by omega
  unfold Ieee.Format.read
  rw [dbl_sw, dbl_bin, dbl_inf, dbl_lp]
  have hw : Ieee.double.word s (e * 2 ^ 52 + X) = (if s then 2 ^ 63 else 0) + (e * 2 ^ 52 + X) := by
    unfold Ieee.Format.word; rw [dbl_sw]; cases s <;> simp
  have hm : Ieee.double.word s (e * 2 ^ 52 + X) % 2 ^ 63 = e * 2 ^ 52 + X := by
    rw [hw]; cases s <;> simp <;> omega
  have hd : Ieee.double.word s (e * 2 ^ 52 + X) / 2 ^ 63 = if s then 1 else 0 := by
    rw [hw]; cases s <;> simp <;> omega
  have hneg : (Ieee.double.word s (e * 2 ^ 52 + X) / 2 ^ 63 % 2 == 1) = s := by
    rw [hd]; cases s <;> rfl
  simp only [hm, hneg]
  rw [if_neg (by omega), if_pos (by omega)]
  have e1 : 2 ^ 52 + (e * 2 ^ 52 + X) % 2 ^ 52 = X := by omega
  have e2 : (e * 2 ^ 52 + X) / 2 ^ 52 - 1 = e := by omega
  rw [e1, e2]
  congr 1
theorem cut_zero (s : Bool) (n : Nat) : Ieee.Toward.even.cut s n 0 = n := by
  unfold Ieee.Toward.cut
  simp [Nat.mod_one]
theorem cut_pow (w : Ieee.Toward) (s : Bool) {n d : Nat} (hn : 0 < n) : w.cut s (n * 2 ^ d) d = n := by
  unfold Ieee.Toward.cut
  have hl : d ≤ (n * 2 ^ d).log2 + 2 := by
    have : d ≤ (n * 2 ^ d).log2 := by
      rw [Nat.le_log2 (by have := Nat.mul_pos hn (Nat.two_pow_pos d); omega)]
      exact Nat.le_mul_of_pos_left _ hn
    omega
  rw [Nat.min_eq_left hl]
  have hg : 1 <<< d = 2 ^ d := by rw [Nat.shiftLeft_eq, Nat.one_mul]
  have hp := Nat.two_pow_pos d
  simp only [hg, Nat.mul_div_cancel _ hp, Nat.mul_mod_left]
  cases w <;> simp <;> omega
theorem log2_bd {n : Nat} (h : 0 < n) : 2 ^ n.log2 ≤ n ∧ n < 2 ^ (n.log2 + 1) := ⟨Nat.log2_self_le (by omega), Nat.lt_log2_self⟩
theorem log2_mul_pow {n : Nat} (h : 0 < n) (k : Nat) : (n * 2 ^ k).log2 = n.log2 + k := by
  obtain ⟨h1, h2⟩ := log2_bd h
  have hne : n * 2 ^ k ≠ 0 := by have := Nat.mul_pos h (Nat.two_pow_pos k); omega
  refine (Nat.log2_eq_iff hne).2 ⟨?_, ?_⟩
  · rw [Nat.pow_add]; exact Nat.mul_le_mul_right _ h1
  · rw [show n.log2 + k + 1 = (n.log2 + 1) + k by omega, Nat.pow_add]; exact Nat.mul_lt_mul_of_pos_right h2 (Nat.two_pow_pos k)
theorem nearest_exact (s : Bool) {N k : Nat} (hN : 0 < N) (hb : N < 2 ^ 53) : ∃ q X, Ieee.double.nearest s (N * 2 ^ k) (-(k : Int)) = Ieee.double.word s ((1074 - q) * 2 ^ 52 + X) ∧ X = N * 2 ^ q ∧ 2 ^ 52 ≤ X ∧ X < 2 ^ 53 ∧ q ≤ 52 := by
  have hL : N.log2 < 53 := (Nat.log2_lt (by omega)).2 hb
  obtain ⟨h1, h2⟩ := log2_bd hN
  obtain ⟨q, hq⟩ : ∃ q, N.log2 + q = 52 := ⟨52 - N.log2, by omega⟩
  have hX1 : 2 ^ 52 ≤ N * 2 ^ q := by
    rw [← hq, Nat.pow_add]; exact Nat.mul_le_mul_right _ h1
  have hX2 : N * 2 ^ q < 2 ^ 53 := by
    have := Nat.mul_lt_mul_of_pos_right h2 (Nat.two_pow_pos q)
    rw [← Nat.pow_add, show N.log2 + 1 + q = 53 by omega] at this; exact this
  refine ⟨q, N * 2 ^ q, ?_, rfl, hX1, hX2, by omega⟩
  unfold Ieee.Format.nearest
  rw [if_neg (by have := Nat.mul_pos hN (Nat.two_pow_pos k); omega), log2_mul_pow hN, dbl_fb, dbl_lp, dbl_bin, dbl_inf]
  have hlast : max (-(k : Int) + ((N.log2 + k : Nat) : Int) - ((52 : Nat) : Int)) (-1074) = -(q : Int) := by omega
  simp only [hlast]
  have hkept : Ieee.Toward.even.cut s ((N * 2 ^ k) <<< (-(k : Int) - -(q : Int)).toNat) (-(q : Int) - -(k : Int)).toNat = N * 2 ^ q := by
    rcases Nat.le_total k q with h | h
    · have e1 : (-(k : Int) - -(q : Int)).toNat = q - k := by omega
      have e2 : (-(q : Int) - -(k : Int)).toNat = 0 := by omega
      rw [e1, e2, cut_zero, Nat.shiftLeft_eq, Nat.mul_assoc, ← Nat.pow_add]
      congr 2; omega
    · have e1 : (-(k : Int) - -(q : Int)).toNat = 0 := by omega
      have e2 : (-(q : Int) - -(k : Int)).toNat = k - q := by omega
      rw [e1, e2, Nat.shiftLeft_zero]
      have : N * 2 ^ k = N * 2 ^ q * 2 ^ (k - q) := by rw [Nat.mul_assoc, ← Nat.pow_add]; congr 2; omega
      rw [this]
      exact cut_pow _ _ (by omega)
  rw [hkept]
  have e5 : (-(q : Int) - -1074).toNat = 1074 - q := by omega
  rw [e5, Nat.min_eq_left (by omega)]
theorem read_zero (s : Bool) : Ieee.double.read (Ieee.double.word s 0) = .number s 0 (-1074) := by cases s <;> decide
theorem nearest_isF (s : Bool) {n : Int} {k : Nat} (hb : n.natAbs < 2 ^ 53) (hs : n ≠ 0 → s = decide (n < 0)) : IsF (Ieee.double.nearest s (n.natAbs * 2 ^ k) (-(k : Int))) n := by
  by_cases h0 : n = 0
  · subst h0
    refine ⟨s, 1074, ?_, fun h => absurd rfl h⟩
    have : Ieee.double.nearest s ((0 : Int).natAbs * 2 ^ k) (-(k : Int)) = Ieee.double.word s 0 := by
      unfold Ieee.Format.nearest; rw [if_pos (by simp)]
    rw [this, read_zero]
    have hz : ∀ p : Nat, (0 : Int).natAbs * p = 0 := fun p => Nat.zero_mul p
    rw [hz]
    rfl
  · obtain ⟨q, X, h1, rfl, h3, h4, h5⟩ := nearest_exact s (N := n.natAbs) (k := k) (by omega) hb
    rw [h1]
    refine ⟨s, q, ?_, hs⟩
    rw [read_word s (by omega) h3 h4]
    congr 1; omega
theorem isF_zero : IsF 0 0 := by
  have h := nearest_isF false (n := 0) (k := 0) (by decide) (fun h => absurd rfl h)
  have e : Ieee.double.nearest false ((0 : Int).natAbs * 2 ^ 0) (-((0 : Nat) : Int)) = 0 := by unfold Ieee.Format.nearest; rw [if_pos (by simp)]; rfl
  rw [e] at h; exact h
theorem nearest_int {n : Int} (hb : n.natAbs < 2 ^ 53) : IsF (FloatKind.f64.nearest n) n := by
  have := nearest_isF (decide (n < 0)) (k := 0) hb fun _ => rfl
  simpa [FloatKind.nearest, FloatKind.encode, FloatKind.format, Ieee.Format.write] using this
theorem signed_eq {s : Bool} {n : Int} {k j : Nat} (hs : n ≠ 0 → s = decide (n < 0)) : Ieee.signed s (n.natAbs * 2 ^ k) j = n * 2 ^ (k + j) := by
  unfold Ieee.signed
  rw [Nat.shiftLeft_eq, Nat.mul_assoc, ← Nat.pow_add]
  by_cases h0 : n = 0
  · subst h0; simp
  · rw [hs h0]
    have e : (((n.natAbs * 2 ^ (k + j) : Nat)) : Int) = (n.natAbs : Int) * 2 ^ (k + j) := by simp
    rw [e]
    by_cases hn : n < 0
    · rw [if_pos (by simpa using hn), Int.ofNat_natAbs_of_nonpos (by omega), Int.neg_mul, Int.neg_neg]
    · rw [if_neg (by simpa using hn), Int.natAbs_of_nonneg (by omega)]
theorem sum_isF {a b : Int} {s t : Bool} {k l : Nat} (hs : a ≠ 0 → s = decide (a < 0)) (ht : b ≠ 0 → t = decide (b < 0)) (hab : (a + b).natAbs < 2 ^ 53) :
    ∃ c, ((Ieee.Datum.number s (a.natAbs * 2 ^ k) (-(k : Int))).sum (Ieee.Datum.number t (b.natAbs * 2 ^ l) (-(l : Int)))).map Ieee.double.write = some c ∧ IsF c (a + b) := by
  simp only [Ieee.Datum.sum, Option.map_some]
  refine ⟨_, rfl, ?_⟩
  rw [signed_eq hs, signed_eq ht]
  obtain ⟨K, hK⟩ : ∃ K : Nat, min (-(k : Int)) (-(l : Int)) = -(K : Int) := ⟨max k l, by omega⟩
  rw [hK]
  have e1 : k + (-(k : Int) - -(K : Int)).toNat = K := by omega
  have e2 : l + (-(l : Int) - -(K : Int)).toNat = K := by omega
  rw [e1, e2, ← Int.add_mul]
  have e3 : ((a + b) * 2 ^ K).natAbs = (a + b).natAbs * 2 ^ K := by
    rw [Int.natAbs_mul, Int.natAbs_pow]; rfl
  rw [e3]
  refine nearest_isF _ hab fun h0 => ?_
  have hp : (0 : Int) < 2 ^ K := Int.pow_pos (by decide)
  have hne : (a + b) * 2 ^ K ≠ 0 := Int.mul_ne_zero h0 (by omega)
  rw [if_neg hne]
  have : ((a + b) * 2 ^ K < 0) ↔ a + b < 0 := by
    constructor
    · intro h
      rcases Int.lt_or_le (a + b) 0 with h1 | h1
      · exact h1
      · have := Int.mul_nonneg h1 (Int.le_of_lt hp); omega
    · intro h; exact Int.mul_neg_of_neg_of_pos h hp
  exact decide_eq_decide.2 this
theorem add_isF {x y : Nat} {a b : Int} (hx : IsF x a) (hy : IsF y b) (h : (a + b).natAbs < 2 ^ 53) : ∃ c, Ieee.double.add x y = some c ∧ IsF c (a + b) := by
  obtain ⟨s, k, h1, h2⟩ := hx
  obtain ⟨t, l, h3, h4⟩ := hy
  unfold Ieee.Format.add
  rw [h1, h3]
  exact sum_isF h2 h4 h
theorem neg_dec {a : Int} (h : a ≠ 0) : (!decide (a < 0)) = decide (-a < 0) := by
  by_cases h1 : a < 0
  · rw [decide_eq_true h1, decide_eq_false (by omega)]; rfl
  · rw [decide_eq_false h1, decide_eq_true (by omega)]; rfl
theorem sub_isF {x y : Nat} {a b : Int} (hx : IsF x a) (hy : IsF y b) (h : (a - b).natAbs < 2 ^ 53) : ∃ c, Ieee.double.sub x y = some c ∧ IsF c (a - b) := by
  obtain ⟨s, k, h1, h2⟩ := hx
  obtain ⟨t, l, h3, h4⟩ := hy
  unfold Ieee.Format.sub
  rw [h1, h3]
  simp only [Ieee.Datum.opposite]
  have := sum_isF (a := a) (b := -b) (s := s) (t := !t) (k := k) (l := l) h2 (fun h0 => by rw [h4 (by omega)]; exact neg_dec (by omega)) (by rw [← Int.sub_eq_add_neg]; exact h)
  rw [Int.natAbs_neg, ← Int.sub_eq_add_neg] at this
  exact this
theorem mul_isF {x y : Nat} {a b : Int} (hx : IsF x a) (hy : IsF y b) (h : (a * b).natAbs < 2 ^ 53) : ∃ c, Ieee.double.mul x y = some c ∧ IsF c (a * b) := by
  obtain ⟨s, k, h1, h2⟩ := hx
  obtain ⟨t, l, h3, h4⟩ := hy
  unfold Ieee.Format.mul
  rw [h1, h3]
  simp only [Ieee.Datum.product, Option.map_some]
  refine ⟨_, rfl, ?_⟩
  have e1 : a.natAbs * 2 ^ k * (b.natAbs * 2 ^ l) = (a * b).natAbs * 2 ^ (k + l) := by
    rw [Int.natAbs_mul, Nat.pow_add]; simp only [Nat.mul_assoc, Nat.mul_left_comm]
  have e2 : -(k : Int) + -(l : Int) = -((k + l : Nat) : Int) := by omega
  rw [e1, e2]
  refine nearest_isF _ h fun h0 => ?_
  have ha : a ≠ 0 := fun h => by subst h; simp at h0
  have hb : b ≠ 0 := fun h => by subst h; simp at h0
  rw [h2 ha, h4 hb]
  rcases Int.lt_or_lt_of_ne ha with p | p <;> rcases Int.lt_or_lt_of_ne hb with q | q
  · have := Int.mul_pos_of_neg_of_neg p q
    rw [decide_eq_true p, decide_eq_true q, decide_eq_false (by omega)]; rfl
  · have := Int.mul_neg_of_neg_of_pos p q
    rw [decide_eq_true p, decide_eq_false (by omega), decide_eq_true this]; rfl
  · have := Int.mul_neg_of_pos_of_neg p q
    rw [decide_eq_false (by omega), decide_eq_true q, decide_eq_true this]; rfl
  · have := Int.mul_pos p q
    rw [decide_eq_false (by omega), decide_eq_false (by omega), decide_eq_false (by omega)]; rfl
theorem xor_top (b : Nat) : (b ^^^ 2 ^ 63) % 2 ^ 63 = b % 2 ^ 63 ∧ ((b ^^^ 2 ^ 63) / 2 ^ 63 % 2 == 1) = !(b / 2 ^ 63 % 2 == 1) := by
  constructor
  · refine Nat.eq_of_testBit_eq fun i => ?_
    simp only [Nat.testBit_mod_two_pow, Nat.testBit_xor, Nat.testBit_two_pow]
    by_cases h : i < 63
    · rw [decide_eq_true h, decide_eq_false (show ¬ 63 = i by omega)]; simp
    · rw [decide_eq_false h]; simp
  · have e : ∀ n : Nat, (n / 2 ^ 63 % 2 == 1) = n.testBit 63 := fun n => by
      rw [Nat.testBit_eq_decide_div_mod_eq]; rfl
    rw [e, e, Nat.testBit_xor, Nat.testBit_two_pow_self]
    cases b.testBit 63 <;> rfl
theorem neg_isF {x : Nat} {a : Int} (hx : IsF x a) : IsF (Op.negFloat .f64 x) (-a) := by
  obtain ⟨s, k, h1, h2⟩ := hx
  refine ⟨!s, k, ?_, fun h => ?_⟩
  · have e : Op.negFloat .f64 x = x ^^^ 2 ^ 63 := rfl
    rw [e, Int.natAbs_neg]
    unfold Ieee.Format.read at h1 ⊢
    rw [dbl_sw] at h1 ⊢
    rw [(xor_top x).1, (xor_top x).2]
    simp only at h1 ⊢
    split at h1
    · rename_i hc
      rw [if_pos hc]
      simp only [Ieee.Datum.number.injEq] at h1 ⊢
      exact ⟨by rw [h1.1], h1.2⟩
    · rename_i hc
      rw [if_neg hc]
      split at h1
      · rename_i hd
        rw [if_pos hd]
        simp only [Ieee.Datum.number.injEq] at h1 ⊢
        exact ⟨by rw [h1.1], h1.2⟩
      · split at h1 <;> cases h1
  · rw [h2 (by omega)]; exact neg_dec (by omega)
theorem toInt_isF {x : Nat} {a : Int} (hx : IsF x a) : (FloatKind.f64.decode x).toInt .zero = some a := by
  obtain ⟨s, k, h1, h2⟩ := hx
  have : FloatKind.f64.decode x = .number s (a.natAbs * 2 ^ k) (-(k : Int)) := h1
  rw [this]
  simp only [Ieee.Datum.toInt, Ieee.Datum.integral]
  have e1 : (-(k : Int)).toNat = 0 := by omega
  have e2 : (- -(k : Int)).toNat = k := by omega
  rw [e1, e2, Nat.shiftLeft_zero]
  by_cases h0 : a = 0
  · subst h0
    simp [Ieee.Toward.cut, Ieee.signed]
  · rw [cut_pow _ _ (by omega)]
    have := signed_eq (k := 0) (j := 0) h2
    simpa using this
end Go.Pw
namespace Go.Pw
open Go Go.RowKit
abbrev ifcW (W : World) (g : Nat) : Prop := ∃ ev, W.cell? ⟨g, 0, none⟩ = some ev ∧ (ev = .nilIface ∨ ∃ te pe, ev = .iface te pe)
abbrev LaidW (W : World) : Prop := (∃ t fr, W.heap[5]? = some (.cells (Lib.pow10Tab.map fun z => Value.int .u64 z).toArray t fr)) ∧ ifcW W 1 ∧ ifcW W 2
end Go.Pw
set_option linter.unusedVariables false
namespace Go.Pw
open Go Go.RowKit
inductive D where
  | v (x : Value)
  | sl (s n : Nat) (f : Nat → List D)
inductive C where
  | d (x : D)
  | tru
  | fls
  | rp (row : List D)
  | fn (f : FuncId) (ids : List Nat)
  | bp (id off : Nat)
  | ep (id s i j : Nat)
  | ms (id n : Nat)
  | yd (id : Nat)
  | z
  | fl (n : Int)
  | cx (m n : Int)
  | mp (id : Nat)
  | cl (s n : Nat) (f : Nat → List D)
  | fnR (f : FuncId) (rows : List (List D))
  | fnB (f : FuncId) (ds : List D)
  | er
  | sb (id n : Nat)
inductive V where
  | c (x : C)
  | agg (cs : List C)
  | tup (vs : List V)
  | unk
inductive Ent where
  | box (cs : List C)
  | row (e : TypeId) (s n : Nat) (f : Nat → List D) (fz : Bool)
  | lp (env : List (Nat × V)) (st : LoopState) (j : Option Code) (R : Loop → Prop)
  | mp (m : Nat) (es : List (Int × Int))
abbrev Store := List (Nat × Ent)
structure St where
  env : List (Nat × V)
  σ : Store
  nx : Nat
def lk : List (Nat × V) → Nat → V
  | [], _ => .unk
  | (a, v) :: e, t => match Nat.beq a t with
    | true => v
    | false => lk e t
def get : Store → Nat → Option Ent
  | [], _ => none
  | (a, v) :: e, t => match Nat.beq a t with
    | true => some v
    | false => get e t
def set : Store → Nat → Ent → Store
  | [], _, _ => []
  | (a, v) :: e, t, x => match Nat.beq a t with
    | true => (a, x) :: e
    | false => (a, v) :: set e t x
def del : Store → Nat → Store
  | [], _ => []
  | (a, v) :: e, t => match Nat.beq a t with
    | true => del e t
    | false => (a, v) :: del e t
theorem get_set_same {σ : Store} {id : Nat} {x y : Ent} (h : get σ id = some y) : get (set σ id x) id = some x := by
  induction σ with
  | nil => simp [get] at h
  | cons p e ih =>
    obtain ⟨a, v⟩ := p
    simp only [get, set] at h ⊢
    generalize hb : Nat.beq a id = b at h ⊢
    cases b
    · simp only [get, hb]; exact ih h
    · simp only [get, hb]
theorem get_set_other {σ : Store} {id id' : Nat} {x : Ent} (h : id' ≠ id) : get (set σ id x) id' = get σ id' := by
  induction σ with
  | nil => rfl
  | cons p e ih =>
    obtain ⟨a, v⟩ := p
    simp only [get, set]
    cases hb : Nat.beq a id <;> simp only [get]
    · rw [ih]
    · have ha : a = id := Nat.eq_of_beq_eq_true hb
      have : Nat.beq a id' = false := by
        rw [ha]; cases hq : Nat.beq id id'
        · rfl
        · exact absurd (Nat.eq_of_beq_eq_true hq).symm h
      simp [this]
theorem get_del_same {σ : Store} {id : Nat} : get (del σ id) id = none := by
  induction σ with
  | nil => rfl
  | cons p e ih =>
    obtain ⟨a, v⟩ := p
    simp only [del]
    cases hb : Nat.beq a id <;> simp [get, hb, ih]
theorem get_del_other {σ : Store} {id id' : Nat} (h : id' ≠ id) : get (del σ id) id' = get σ id' := by
  induction σ with
  | nil => rfl
  | cons p e ih =>
    obtain ⟨a, v⟩ := p
    simp only [get, del]
    cases hb : Nat.beq a id <;> simp only [get]
    · rw [ih]
    · have ha : a = id := Nat.eq_of_beq_eq_true hb
      have : Nat.beq a id' = false := by
        rw [ha]; cases hq : Nat.beq id id'
        · rfl
        · exact absurd (Nat.eq_of_beq_eq_true hq).symm h
      simp [this, ih]
theorem get_cons_same {σ : Store} {id : Nat} {x : Ent} : get ((id, x) :: σ) id = some x := by simp [get, Nat.beq_refl]
theorem get_cons_other {σ : Store} {id id' : Nat} {x : Ent} (h : id' ≠ id) : get ((id, x) :: σ) id' = get σ id' := by
  have : Nat.beq id id' = false := by
    cases hq : Nat.beq id id'
    · rfl
    · exact absurd (Nat.eq_of_beq_eq_true hq).symm h
  simp [get, this]
structure Cx where
  I : Nat → Prop
  ρ : Nat → Option Nat
  κ : Nat → Option Nat
def one : Value → Bool
  | .agg _ | .tuple _ => false
  | _ => true
inductive RepD (I : Nat → Prop) (w : World) : D → Value → Prop
  | v (x : Value) (h : one x = true) : RepD I w (.v x) x
  | slE (s : Nat) (f : Nat → List D) (A : Option Addr) (c : Nat) : RepD I w (.sl s 0 f) (.slice A 0 c)
  | sl (s n : Nat) (f : Nat → List D) (ad : Addr) (c : Nat) (U : Nat → Nat → Value) (hn : n ≤ c) (hI : I ad.block) (hs : ∀ i, i < n → (f i).length = s)
      (hc : ∀ i j d, i < n → (f i)[j]? = some d → w.cell? (ad.add (i * s + j)) = some (U i j))
      (hr : ∀ i j d, i < n → (f i)[j]? = some d → RepD I w d (U i j)) : RepD I w (.sl s n f) (.slice (some ad) n c)
def ptr (b off : Nat) : Value := .pointer (some ⟨b, off, none⟩)
def RepP (I : Nat → Prop) (w : World) (row : List D) (u : Value) : Prop :=
  ∃ ad, u = .pointer (some ad) ∧ I ad.block ∧ ∀ j d, row[j]? = some d → ∃ x, w.cell? (ad.add j) = some x ∧ RepD I w d x
def RepC (Γ : Cx) (w : World) : C → Value → Prop
  | .d x, u => RepD Γ.I w x u
  | .tru, u => u = .bool true
  | .fls, u => u = .bool false
  | .rp row, u => RepP Γ.I w row u
  | .fn f ids, u => ∃ bs : List Nat, bs.length = ids.length ∧ (∀ (j i : Nat), ids[j]? = some i → ∃ b, Γ.ρ i = some b ∧ bs[j]? = some b) ∧ u = .func (.func f) #[] (bs.map fun b => ptr b 0).toArray
  | .bp id off, u => ∃ b, Γ.ρ id = some b ∧ u = ptr b off
  | .ep id s i j, u => ∃ b, Γ.ρ id = some b ∧ u = ptr b (i * s + j)
  | .yd id, u => ∃ b, Γ.ρ id = some b ∧ u = .func (.yield b) #[] #[]
  | .ms id n, u => ∃ b, Γ.ρ id = some b ∧ ((n = 0 ∧ Γ.κ id = none ∧ u = .slice none 0 0) ∨ (∃ c, Γ.κ id = some c ∧ u = .slice (some ⟨b, 0, none⟩) n c))
  | .z, u => ∃ A, u = .slice A 0 0
  | .fl n, u => ∃ b, u = .float .f64 b ∧ IsF b n
  | .cx m n, u => ∃ a b, u = .complex .f64 a b ∧ IsF a m ∧ IsF b n
  | .mp id, u => ∃ b, Γ.ρ id = some b ∧ u = .map (some b)
  | .fnR f rows, u => ∃ us : List Value, us.length = rows.length ∧ (∀ (j : Nat) row x, rows[j]? = some row → us[j]? = some x → RepP Γ.I w row x) ∧ u = .func (.func f) #[] us.toArray
  | .fnB f ds, u => ∃ us : Array Value, us.size = ds.length ∧ (∀ (j : Nat) d x, ds[j]? = some d → us[j]? = some x → RepD Γ.I w d x) ∧ u = .func (.func f) #[.agg us] #[]
  | .cl s n f, u => (∃ A, u = .slice A n n) ∧ RepD Γ.I w (.sl s n f) u
  | .er, u => ∃ t p, u = .iface t p
  | .sb id n, u => ∃ b, Γ.ρ id = some b ∧ u = .slice (some ⟨b, 0, none⟩) n n
inductive RepV (Γ : Cx) (w : World) : V → Value → Prop
  | c (x : C) (u : Value) (h : RepC Γ w x u) : RepV Γ w (.c x) u
  | agg (cs : List C) (us : Array Value) (hl : us.size = cs.length) (h : ∀ (i : Nat) c u, cs[i]? = some c → us[i]? = some u → RepC Γ w c u) : RepV Γ w (.agg cs) (.agg us)
  | tup (vs : List V) (us : Array Value) (hl : us.size = vs.length) (h : ∀ (i : Nat) v u, vs[i]? = some v → us[i]? = some u → RepV Γ w v u) : RepV Γ w (.tup vs) (.tuple us)
  | unk (u : Value) : RepV Γ w .unk u
def LiveId (Γ : Cx) (σ : Store) (id : Nat) : Prop :=
  (∃ cs, get σ id = some (.box cs)) ∨ (∃ e s n f, get σ id = some (.row e s n f false) ∧ ∃ c, Γ.κ id = some c) ∨ (∃ env st j R, get σ id = some (.lp env st j R)) ∨ (∃ m es, get σ id = some (.mp m es))
def Live (Γ : Cx) (σ : Store) (k : Nat) : Prop := ∃ id, LiveId Γ σ id ∧ Γ.ρ id = some k
def mvalue (m : Nat) (z : Int) : Value :=
  match m with
  | 0 => .agg #[]
  | 1 => .int .i64 z
  | _ => .bool (decide (z ≠ 0))
def EntOk (Γ : Cx) (w : World) (id b : Nat) : Ent → Prop
  | .box cs => ¬ Γ.I b ∧ ∃ xs t, w.heap[b]? = some (.cells xs t (0, 0)) ∧ xs.size = cs.length ∧ ∀ (i : Nat) (c : C), cs[i]? = some c → ∃ x, xs[i]? = some x ∧ RepC Γ w c x
  | .row e s n f fz => (Γ.κ id = none ∧ n = 0) ∨ (∃ c, Γ.κ id = some c ∧ (fz = true → Γ.I b) ∧ (fz = false → ¬ Γ.I b) ∧ n ≤ c ∧ c ≤ maxLen ∧ (∀ i, i < n → (f i).length = s) ∧
      ∃ xs, w.heap[b]? = some (.cells xs e (0, 0)) ∧ xs.size = c * s ∧ ∀ (i j : Nat) (d : D), i < n → (f i)[j]? = some d → ∃ x, xs[i * s + j]? = some x ∧ RepD Γ.I w d x)
  | .lp env st j R => ¬ Γ.I b ∧ ∃ r : Loop, w.heap[b]? = some (.loop r) ∧ r.state = st ∧ r.pending = j ∧ R { r with state := .ready, pending := none } ∧ ∀ t, RepV Γ w (lk env t) (r.tmps.getD t undef)
  | .mp m es => ¬ Γ.I b ∧ ∃ l clock, w.heap[b]? = some (.map l clock) ∧ l.size = es.length ∧ ∀ (i : Nat) k z, es[i]? = some (k, z) → ∃ e, l[i]? = some e ∧ e.key = .int .i64 k ∧ e.val = mvalue m z
def LayOk (I : Nat → Prop) (w : World) : Prop := ∃ W0 : World, LaidW W0 ∧ ∀ k, k < W0.heap.size → I k ∧ w.heap[k]? = W0.heap[k]?
structure StoreOk (Γ : Cx) (w : World) (σ : Store) : Prop where
  im : ∀ k, Γ.I k → k < w.heap.size
  ok : ∀ id e, get σ id = some e → ∃ b, Γ.ρ id = some b ∧ EntOk Γ w id b e
  inj : ∀ i j k, LiveId Γ σ i → LiveId Γ σ j → Γ.ρ i = some k → Γ.ρ j = some k → i = j
  lay : LayOk Γ.I w
structure Ext (base : Nat) (Γ : Cx) (w : World) (σ : Store) (Γ' : Cx) (w' : World) (σ' : Store) : Prop where
  os : w'.os = w.os
  tape : w'.tape = w.tape
  output : w'.output = w.output
  size : w.heap.size ≤ w'.heap.size
  im : ∀ k, Γ.I k → Γ'.I k
  new : ∀ k, Γ'.I k → Γ.I k ∨ w.heap.size ≤ k ∨ Live Γ σ k
  ρ : ∀ id, id < base → Γ'.ρ id = Γ.ρ id
  κ : ∀ id, id < base → Γ'.κ id = Γ.κ id
  keep : ∀ k, k < w.heap.size → ¬ Live Γ σ k → w'.heap[k]? = w.heap[k]?
  live : ∀ k, Live Γ' σ' k → Live Γ σ k ∨ w.heap.size ≤ k
theorem Ext.refl (base : Nat) (Γ : Cx) (w : World) (σ : Store) : Ext base Γ w σ Γ w σ :=
  ⟨rfl, rfl, rfl, Nat.le_refl _, fun _ h => h, fun _ h => .inl h, fun _ _ => rfl, fun _ _ => rfl, fun _ _ _ => rfl, fun _ h => .inl h⟩
theorem Ext.trans {base : Nat} {Γ Γ' Γ'' : Cx} {w w' w'' : World} {σ σ' σ'' : Store} (h : Ext base Γ w σ Γ' w' σ') (k : Ext base Γ' w' σ' Γ'' w'' σ'') :
    Ext base Γ w σ Γ'' w'' σ'' where
  os := k.os.trans h.os
  tape := k.tape.trans h.tape
  output := k.output.trans h.output
  size := Nat.le_trans h.size k.size
  im := fun b hb => k.im b (h.im b hb)
  new := fun b hb => by
    rcases k.new b hb with h1 | h1 | h1
    · exact h.new b h1
    · exact .inr (.inl (Nat.le_trans h.size h1))
    · rcases h.live b h1 with h2 | h2
      · exact .inr (.inr h2)
      · exact .inr (.inl h2)
  ρ := fun id hid => (k.ρ id hid).trans (h.ρ id hid)
  κ := fun id hid => (k.κ id hid).trans (h.κ id hid)
  keep := fun b hb hn => by
    refine (k.keep b (Nat.lt_of_lt_of_le hb h.size) (fun hl => ?_)).trans (h.keep b hb hn)
    rcases h.live b hl with h1 | h1
    · exact hn h1
    · omega
  live := fun b hb => by
    rcases k.live b hb with h1 | h1
    · exact h.live b h1
    · exact .inr (Nat.le_trans h.size h1)
theorem Ext.mono {base base' : Nat} {Γ Γ' : Cx} {w w' : World} {σ σ' : Store} (h : Ext base Γ w σ Γ' w' σ') (hb : base' ≤ base) : Ext base' Γ w σ Γ' w' σ' :=
  ⟨h.os, h.tape, h.output, h.size, h.im, h.new, fun id hid => h.ρ id (by omega), fun id hid => h.κ id (by omega), h.keep, h.live⟩
def Same (I : Nat → Prop) (w w' : World) : Prop := ∀ k, I k → w'.heap[k]? = w.heap[k]?
theorem LayOk.mono {I I' : Nat → Prop} {w w' : World} (h : LayOk I w) (hI : ∀ k, I k → I' k) (hs : Same I w w') : LayOk I' w' := by
  obtain ⟨W0, h1, h2⟩ := h
  exact ⟨W0, h1, fun k hk => ⟨hI k (h2 k hk).1, (hs k (h2 k hk).1).trans (h2 k hk).2⟩⟩
theorem cell_of_heap {w w' : World} {a : Addr} (h : w'.heap[a.block]? = w.heap[a.block]?) : w'.cell? a = w.cell? a := by
  simp only [World.cell?, h]
theorem block_add (a : Addr) (n : Nat) : (a.add n).block = a.block := by unfold Addr.add; split <;> rfl
theorem add_add (a : Addr) (i j : Nat) : (a.add i).add j = a.add (i + j) := by
  unfold Addr.add
  by_cases hi : i = 0 <;> by_cases hj : j = 0 <;> simp [hi, hj, Nat.add_assoc]
theorem RepD.mono {I I' : Nat → Prop} {w w' : World} {d : D} {u : Value} (h : RepD I w d u) (hI : ∀ k, I k → I' k) (hs : Same I w w') : RepD I' w' d u := by
  induction h with
  | v x h => exact .v x h
  | slE s f A c => exact .slE s f A c
  | sl s n f ad c U hn hb hl hc _ ih =>
    refine .sl s n f ad c U hn (hI _ hb) hl (fun i j d hi hd => ?_) ih
    exact (cell_of_heap (by rw [block_add]; exact hs _ hb)).trans (hc i j d hi hd)
theorem RepP.mono {I I' : Nat → Prop} {w w' : World} {row : List D} {u : Value} (h : RepP I w row u) (hI : ∀ k, I k → I' k) (hs : Same I w w') : RepP I' w' row u := by
  obtain ⟨ad, hu, hi, hr⟩ := h
  refine ⟨ad, hu, hI _ hi, fun j d hd => ?_⟩
  obtain ⟨x, hx, hd'⟩ := hr j d hd
  exact ⟨x, (cell_of_heap (by rw [block_add]; exact hs _ hi)).trans hx, hd'.mono hI hs⟩
structure CxLe (Γ Γ' : Cx) : Prop where
  im : ∀ k, Γ.I k → Γ'.I k
  ρ : ∀ id b, Γ.ρ id = some b → Γ'.ρ id = some b
  κ : ∀ id b, Γ.ρ id = some b → Γ'.κ id = Γ.κ id
theorem CxLe.refl (Γ : Cx) : CxLe Γ Γ := ⟨fun _ h => h, fun _ _ h => h, fun _ _ _ => rfl⟩
theorem CxLe.trans {Γ Γ' Γ'' : Cx} (h : CxLe Γ Γ') (k : CxLe Γ' Γ'') : CxLe Γ Γ'' :=
  ⟨fun b hb => k.im b (h.im b hb), fun id b hb => k.ρ id b (h.ρ id b hb), fun id b hb => (k.κ id b (h.ρ id b hb)).trans (h.κ id b hb)⟩
theorem RepC.mono {Γ Γ' : Cx} {w w' : World} {c : C} {u : Value} (h : RepC Γ w c u) (hle : CxLe Γ Γ') (hs : Same Γ.I w w') : RepC Γ' w' c u := by
  cases c with
  | d x => exact RepD.mono h hle.im hs
  | tru => exact h
  | fls => exact h
  | z => exact h
  | rp row => exact RepP.mono h hle.im hs
  | fnR f rows =>
    obtain ⟨us, hl, hr, hu⟩ := h
    exact ⟨us, hl, fun j row x hj hx => (hr j row x hj hx).mono hle.im hs, hu⟩
  | fnB f ds =>
    obtain ⟨us, hl, hr, hu⟩ := h
    exact ⟨us, hl, fun j d x hj hx => (hr j d x hj hx).mono hle.im hs, hu⟩
  | fn f ids =>
    obtain ⟨bs, hl, hb, hu⟩ := h
    refine ⟨bs, hl, fun j i hj => ?_, hu⟩
    obtain ⟨b, h1, h2⟩ := hb j i hj
    exact ⟨b, hle.ρ i b h1, h2⟩
  | bp id off => obtain ⟨b, hb, hu⟩ := h; exact ⟨b, hle.ρ id b hb, hu⟩
  | yd id => obtain ⟨b, hb, hu⟩ := h; exact ⟨b, hle.ρ id b hb, hu⟩
  | fl n => exact h
  | cx m n => exact h
  | mp id => obtain ⟨b, hb, hu⟩ := h; exact ⟨b, hle.ρ id b hb, hu⟩
  | cl s n f => exact ⟨h.1, h.2.mono hle.im hs⟩
  | er => exact h
  | sb id n => obtain ⟨b, hb, hu⟩ := h; exact ⟨b, hle.ρ id b hb, hu⟩
  | ep id s i j => obtain ⟨b, hb, hu⟩ := h; exact ⟨b, hle.ρ id b hb, hu⟩
  | ms id n =>
    obtain ⟨b, hb, h⟩ := h
    refine ⟨b, hle.ρ id b hb, ?_⟩
    rw [hle.κ id b hb]
    exact h
theorem RepV.mono {Γ Γ' : Cx} {w w' : World} {v : V} {u : Value} (h : RepV Γ w v u) (hle : CxLe Γ Γ') (hs : Same Γ.I w w') : RepV Γ' w' v u := by
  induction h with
  | c x u h => exact .c x u (h.mono hle hs)
  | agg cs us hl h => exact .agg cs us hl (fun i c u hc hu => (h i c u hc hu).mono hle hs)
  | tup vs us hl _ ih => exact .tup vs us hl ih
  | unk u => exact .unk u
def HasB (Γ : Cx) (id : Nat) : Ent → Prop
  | .box _ => True
  | .row .. => ∃ c, Γ.κ id = some c
  | .lp .. => True
  | .mp .. => True
theorem EntOk.mono {Γ Γ' : Cx} {w w' : World} {id b : Nat} {e : Ent} (h : EntOk Γ w id b e) (hid : Γ.ρ id = some b) (hle : CxLe Γ Γ') (hs : Same Γ.I w w')
    (hb : HasB Γ id e → w'.heap[b]? = w.heap[b]?) (hI : HasB Γ id e → ¬ Γ.I b → ¬ Γ'.I b) : EntOk Γ' w' id b e := by
  cases e with
  | box cs =>
    obtain ⟨h1, xs, t, h2, h3, h4⟩ := h
    refine ⟨hI trivial h1, xs, t, (hb trivial).trans h2, h3, fun i c hc => ?_⟩
    obtain ⟨x, hx, hr⟩ := h4 i c hc
    exact ⟨x, hx, hr.mono hle hs⟩
  | row e s n f fz =>
    rcases h with ⟨h1, h2⟩ | ⟨c, h1, h2, h3, h4, h5, h6, xs, h7, h8, h9⟩
    · exact .inl ⟨by rw [hle.κ id b hid]; exact h1, h2⟩
    · refine .inr ⟨c, by rw [hle.κ id b hid]; exact h1, fun hf => hle.im _ (h2 hf), fun hf => hI ⟨c, h1⟩ (h3 hf), h4, h5, h6, xs, (hb ⟨c, h1⟩).trans h7, h8, fun i j d hi hd => ?_⟩
      obtain ⟨x, hx, hr⟩ := h9 i j d hi hd
      exact ⟨x, hx, hr.mono hle.im hs⟩
  | lp env st j R =>
    obtain ⟨h1, r, h2, h3, h4, h5, h6⟩ := h
    exact ⟨hI trivial h1, r, (hb trivial).trans h2, h3, h4, h5, fun t => (h6 t).mono hle hs⟩
  | mp m es =>
    obtain ⟨h1, l, c, h2, h3⟩ := h
    exact ⟨hI trivial h1, l, c, (hb trivial).trans h2, h3⟩
theorem StoreOk.not_live {Γ : Cx} {w : World} {σ : Store} (h : StoreOk Γ w σ) {k : Nat} (hk : Γ.I k) : ¬ Live Γ σ k := by
  rintro ⟨id, hl, hid⟩
  rcases hl with ⟨cs, hg⟩ | ⟨e, s, n, f, hg, c, hκ⟩ | ⟨env, st, j, R, hg⟩ | ⟨m, es, hg⟩
  · obtain ⟨b, hb, he⟩ := h.ok id _ hg
    rw [hid] at hb; cases hb
    exact he.1 hk
  · obtain ⟨b, hb, he⟩ := h.ok id _ hg
    rw [hid] at hb; cases hb
    rcases he with ⟨h1, _⟩ | ⟨_, _, _, h1, _⟩
    · rw [hκ] at h1; cases h1
    · exact h1 rfl hk
  · obtain ⟨b, hb, he⟩ := h.ok id _ hg
    rw [hid] at hb; cases hb
    exact he.1 hk
  · obtain ⟨b, hb, he⟩ := h.ok id _ hg
    rw [hid] at hb; cases hb
    exact he.1 hk
theorem Ext.same {base : Nat} {Γ Γ' : Cx} {w w' : World} {σ σ' : Store} (h : Ext base Γ w σ Γ' w' σ') (hok : StoreOk Γ w σ) : Same Γ.I w w' :=
  fun k hk => h.keep k (hok.im k hk) (hok.not_live hk)
def Cx.upd (Γ : Cx) (id b : Nat) (κ : Option Nat) : Cx :=
  { I := Γ.I, ρ := fun i => if i = id then some b else Γ.ρ i, κ := fun i => if i = id then κ else Γ.κ i }
def Cx.also (Γ : Cx) (p : Nat → Prop) : Cx := { Γ with I := fun k => Γ.I k ∨ p k }
theorem CxLe.upd (Γ : Cx) {id : Nat} (b : Nat) (κ : Option Nat) (hid : Γ.ρ id = none) : CxLe Γ (Γ.upd id b κ) := by
  have key : ∀ i b, Γ.ρ i = some b → i ≠ id := fun i b h e => by subst e; rw [hid] at h; cases h
  exact ⟨fun _ h => h, fun i b h => by simp [Cx.upd, key i b h, h], fun i b h => by simp [Cx.upd, key i b h]⟩
theorem CxLe.also (Γ : Cx) (p : Nat → Prop) : CxLe Γ (Γ.also p) := ⟨fun _ h => .inl h, fun _ _ h => h, fun _ _ _ => rfl⟩
def LiveE (Γ : Cx) (id : Nat) : Ent → Prop
  | .box _ => True
  | .row _ _ _ _ fz => fz = false ∧ ∃ c, Γ.κ id = some c
  | .lp .. => True
  | .mp .. => True
theorem liveId_iff {Γ : Cx} {σ : Store} {id : Nat} : LiveId Γ σ id ↔ ∃ e, get σ id = some e ∧ LiveE Γ id e := by
  constructor
  · rintro (⟨cs, h⟩ | ⟨e, s, n, f, h, hc⟩ | ⟨env, st, j, R, h⟩ | ⟨m, es, h⟩)
    · exact ⟨_, h, trivial⟩
    · exact ⟨_, h, rfl, hc⟩
    · exact ⟨_, h, trivial⟩
    · exact ⟨_, h, trivial⟩
  · rintro ⟨e, h, hl⟩
    cases e with
    | box cs => exact .inl ⟨cs, h⟩
    | row e s n f fz => obtain ⟨rfl, hc⟩ := hl; exact .inr (.inl ⟨e, s, n, f, h, hc⟩)
    | lp env st j R => exact .inr (.inr (.inl ⟨env, st, j, R, h⟩))
    | mp m es => exact .inr (.inr (.inr ⟨m, es, h⟩))
theorem liveE_mono {Γ Γ' : Cx} {id b : Nat} {e : Ent} (hle : CxLe Γ Γ') (hid : Γ.ρ id = some b) : LiveE Γ' id e ↔ LiveE Γ id e := by
  cases e with
  | box cs => exact Iff.rfl
  | row e s n f fz => simp only [LiveE, hle.κ id b hid]
  | lp env st j R => exact Iff.rfl
  | mp m es => exact Iff.rfl
theorem StoreOk.liveId {Γ Γ' : Cx} {w : World} {σ : Store} (h : StoreOk Γ w σ) (hle : CxLe Γ Γ') (id : Nat) : LiveId Γ' σ id ↔ LiveId Γ σ id := by
  rw [liveId_iff, liveId_iff]
  constructor
  · rintro ⟨e, hg, hl⟩; obtain ⟨b, hb, _⟩ := h.ok id e hg; exact ⟨e, hg, (liveE_mono hle hb).1 hl⟩
  · rintro ⟨e, hg, hl⟩; obtain ⟨b, hb, _⟩ := h.ok id e hg; exact ⟨e, hg, (liveE_mono hle hb).2 hl⟩
theorem StoreOk.live {Γ Γ' : Cx} {w : World} {σ : Store} (h : StoreOk Γ w σ) (hle : CxLe Γ Γ') (k : Nat) : Live Γ' σ k ↔ Live Γ σ k := by
  constructor
  · rintro ⟨id, hl, hk⟩
    have hl' := (h.liveId hle id).1 hl
    obtain ⟨e, hg, _⟩ := liveId_iff.1 hl'
    obtain ⟨b, hb, _⟩ := h.ok id e hg
    have := hle.ρ id b hb
    rw [hk] at this; cases this
    exact ⟨id, hl', hb⟩
  · rintro ⟨id, hl, hk⟩
    exact ⟨id, (h.liveId hle id).2 hl, hle.ρ id k hk⟩
theorem EntOk.block {Γ : Cx} {w : World} {id b : Nat} {e : Ent} (h : EntOk Γ w id b e) (hb : HasB Γ id e) : b < w.heap.size := by
  cases e with
  | box cs => obtain ⟨_, xs, t, hh, _⟩ := h; exact (Array.getElem?_eq_some_iff.1 hh).1
  | row e s n f fz =>
    obtain ⟨c, hc⟩ := hb
    rcases h with ⟨h1, _⟩ | ⟨_, _, _, _, _, _, _, xs, hh, _⟩
    · rw [hc] at h1; cases h1
    · exact (Array.getElem?_eq_some_iff.1 hh).1
  | lp env st j R => obtain ⟨_, r, hh, _⟩ := h; exact (Array.getElem?_eq_some_iff.1 hh).1
  | mp m es => obtain ⟨_, l, c, hh, _⟩ := h; exact (Array.getElem?_eq_some_iff.1 hh).1
theorem LiveE.hasB {Γ : Cx} {id : Nat} {e : Ent} (h : LiveE Γ id e) : HasB Γ id e := by
  cases e with
  | box cs => trivial
  | row e s n f fz => exact h.2
  | lp env st j R => trivial
  | mp m es => trivial
theorem StoreOk.live_lt {Γ : Cx} {w : World} {σ : Store} (h : StoreOk Γ w σ) {k : Nat} (hl : Live Γ σ k) : k < w.heap.size := by
  obtain ⟨id, hl, hk⟩ := hl
  obtain ⟨e, hg, hle⟩ := liveId_iff.1 hl
  obtain ⟨b, hb, he⟩ := h.ok id e hg
  rw [hk] at hb; cases hb
  exact he.block hle.hasB
theorem StoreOk.or_live {Γ : Cx} {w : World} {σ : Store} (h : StoreOk Γ w σ) {id b : Nat} {e : Ent} (hg : get σ id = some e) (hb : Γ.ρ id = some b) (hB : HasB Γ id e) : Γ.I b ∨ LiveId Γ σ id := by
  cases e with
  | box cs => exact .inr (.inl ⟨cs, hg⟩)
  | row e s n f fz =>
    obtain ⟨c, hc⟩ := hB
    cases fz with
    | false => exact .inr (.inr (.inl ⟨e, s, n, f, hg, c, hc⟩))
    | true =>
      obtain ⟨b', hb', he⟩ := h.ok id _ hg
      rw [hb] at hb'; cases hb'
      rcases he with ⟨h1, _⟩ | ⟨_, _, h2, _⟩
      · rw [hc] at h1; cases h1
      · exact .inl (h2 rfl)
  | lp env st j R => exact .inr (.inr (.inr (.inl ⟨env, st, j, R, hg⟩)))
  | mp m es => exact .inr (.inr (.inr (.inr ⟨m, es, hg⟩)))
theorem StoreOk.keep {Γ Γ' : Cx} {w w' : World} {σ : Store} (h : StoreOk Γ w σ) (hle : CxLe Γ Γ') (him : ∀ k, Γ'.I k → k < w'.heap.size) (hs : Same Γ.I w w')
    (hl : ∀ k, Live Γ σ k → w'.heap[k]? = w.heap[k]?) (hI : ∀ k, Live Γ σ k → ¬ Γ'.I k) : StoreOk Γ' w' σ where
  im := him
  ok := fun id e hg => by
    obtain ⟨b, hb, hok⟩ := h.ok id e hg
    refine ⟨b, hle.ρ id b hb, hok.mono hb hle hs (fun hB => ?_) (fun hB hn => ?_)⟩
    · rcases h.or_live hg hb hB with h1 | h1
      · exact hs _ h1
      · exact hl _ ⟨id, h1, hb⟩
    · rcases h.or_live hg hb hB with h1 | h1
      · exact absurd h1 hn
      · exact hI _ ⟨id, h1, hb⟩
  inj := fun i j k hi hj hki hkj => by
    have hi' := (h.liveId hle i).1 hi
    have hj' := (h.liveId hle j).1 hj
    obtain ⟨ei, gi, _⟩ := liveId_iff.1 hi'
    obtain ⟨ej, gj, _⟩ := liveId_iff.1 hj'
    obtain ⟨bi, hbi, _⟩ := h.ok i ei gi
    obtain ⟨bj, hbj, _⟩ := h.ok j ej gj
    have e1 := hle.ρ i bi hbi
    have e2 := hle.ρ j bj hbj
    rw [hki] at e1; rw [hkj] at e2; cases e1; cases e2
    exact h.inj i j k hi' hj' hbi hbj
  lay := h.lay.mono hle.im hs
theorem StoreOk.cons {Γ : Cx} {w : World} {σ : Store} {id b : Nat} {e : Ent} (h : StoreOk Γ w σ) (hid : Γ.ρ id = some b) (he : EntOk Γ w id b e)
    (hnl : LiveE Γ id e → ∀ j, j ≠ id → LiveId Γ σ j → Γ.ρ j ≠ some b) : StoreOk Γ w ((id, e) :: σ) where
  im := h.im
  ok := fun j e' hg => by
    by_cases hj : j = id
    · subst hj; rw [get_cons_same] at hg; cases hg; exact ⟨b, hid, he⟩
    · rw [get_cons_other hj] at hg; exact h.ok j e' hg
  inj := fun i j k hi hj hki hkj => by
    rw [liveId_iff] at hi hj
    obtain ⟨ei, gi, li⟩ := hi
    obtain ⟨ej, gj, lj⟩ := hj
    by_cases h1 : i = id <;> by_cases h2 : j = id
    · rw [h1, h2]
    · subst h1; rw [get_cons_same] at gi; cases gi; rw [get_cons_other h2] at gj
      rw [hid] at hki; cases hki
      exact absurd hkj (hnl li j h2 (liveId_iff.2 ⟨ej, gj, lj⟩))
    · subst h2; rw [get_cons_same] at gj; cases gj; rw [get_cons_other h1] at gi
      rw [hid] at hkj; cases hkj
      exact absurd hki (hnl lj i h1 (liveId_iff.2 ⟨ei, gi, li⟩))
    · rw [get_cons_other h1] at gi; rw [get_cons_other h2] at gj
      exact h.inj i j k (liveId_iff.2 ⟨ei, gi, li⟩) (liveId_iff.2 ⟨ej, gj, lj⟩) hki hkj
  lay := h.lay
theorem StoreOk.del {Γ : Cx} {w : World} {σ : Store} (h : StoreOk Γ w σ) (id : Nat) : StoreOk Γ w (del σ id) := by
  have key : ∀ j e, get (Pw.del σ id) j = some e → j ≠ id ∧ get σ j = some e := fun j e hg => by
    by_cases hj : j = id
    · subst hj; rw [get_del_same] at hg; cases hg
    · exact ⟨hj, by rw [get_del_other hj] at hg; exact hg⟩
  have kl : ∀ j, LiveId Γ (Pw.del σ id) j → LiveId Γ σ j := fun j hl => by
    obtain ⟨e, hg, hle⟩ := liveId_iff.1 hl
    exact liveId_iff.2 ⟨e, (key j e hg).2, hle⟩
  exact ⟨h.im, fun j e hg => h.ok j e (key j e hg).2, fun i j k hi hj => h.inj i j k (kl i hi) (kl j hj), h.lay⟩
theorem liveId_del {Γ : Cx} {σ : Store} {id j : Nat} (h : LiveId Γ (del σ id) j) : j ≠ id ∧ LiveId Γ σ j := by
  obtain ⟨e, hg, hle⟩ := liveId_iff.1 h
  have hj : j ≠ id := fun e => by subst e; rw [get_del_same] at hg; cases hg
  rw [get_del_other hj] at hg
  exact ⟨hj, liveId_iff.2 ⟨e, hg, hle⟩⟩
theorem live_del {Γ : Cx} {σ : Store} {id k : Nat} (h : Live Γ (del σ id) k) : Live Γ σ k := by
  obtain ⟨j, hl, hk⟩ := h
  exact ⟨j, (liveId_del hl).2, hk⟩
theorem StoreOk.modify {Γ : Cx} {w w' : World} {σ : Store} {id b : Nat} {e e' : Ent} (h : StoreOk Γ w σ) (hg : get σ id = some e) (hb : Γ.ρ id = some b) (hl : LiveE Γ id e)
    (hsz : w.heap.size ≤ w'.heap.size) (hk : ∀ k, k < w.heap.size → k ≠ b → w'.heap[k]? = w.heap[k]?) (he : EntOk Γ w' id b e') : StoreOk Γ w' (set σ id e') := by
  have hli : LiveId Γ σ id := liveId_iff.2 ⟨e, hg, hl⟩
  have hnI : ¬ Γ.I b := fun hI => h.not_live hI ⟨id, hli, hb⟩
  have hs : Same Γ.I w w' := fun k hI => hk k (h.im k hI) (fun e => hnI (e ▸ hI))
  have key : ∀ j x, j ≠ id → get (set σ id e') j = some x → get σ j = some x := fun j x hj hx => by rw [get_set_other hj] at hx; exact hx
  have kl : ∀ j, LiveId Γ (set σ id e') j → LiveId Γ σ j := fun j hlj => by
    by_cases hj : j = id
    · exact hj ▸ hli
    · obtain ⟨x, hx, hlx⟩ := liveId_iff.1 hlj
      exact liveId_iff.2 ⟨x, key j x hj hx, hlx⟩
  refine ⟨fun k hI => Nat.lt_of_lt_of_le (h.im k hI) hsz, fun j x hx => ?_, fun i j k hi hj => h.inj i j k (kl i hi) (kl j hj), h.lay.mono (fun _ h => h) hs⟩
  by_cases hj : j = id
  · subst hj; rw [get_set_same hg] at hx; cases hx; exact ⟨b, hb, he⟩
  · have hx' := key j x hj hx
    obtain ⟨b', hb', hok⟩ := h.ok j x hx'
    refine ⟨b', hb', hok.mono hb' (CxLe.refl _) hs (fun hB => ?_) (fun _ hn => hn)⟩
    refine hk _ (hok.block hB) (fun heq => ?_)
    subst heq
    rcases h.or_live hx' hb' hB with h1 | h1
    · exact hnI h1
    · exact hj (h.inj j id b' h1 hli hb' hb)
theorem StoreOk.freeze {Γ : Cx} {w : World} {σ : Store} {id b : Nat} {e : TypeId} {s n : Nat} {f : Nat → List D} {fz : Bool} (h : StoreOk Γ w σ) (hg : get σ id = some (.row e s n f fz)) (hb : Γ.ρ id = some b) :
    StoreOk (Γ.also fun k => k = b ∧ ∃ c, Γ.κ id = some c) w (set σ id (.row e s n f true)) := by
  have hle : CxLe Γ (Γ.also fun k => k = b ∧ ∃ c, Γ.κ id = some c) := CxLe.also _ _
  have key : ∀ j x, j ≠ id → get (set σ id (.row e s n f true)) j = some x → get σ j = some x := fun j x hj hx => by rw [get_set_other hj] at hx; exact hx
  obtain ⟨b0, hb0, hok0⟩ := h.ok id _ hg
  rw [hb] at hb0; cases hb0
  have kl : ∀ j, LiveId (Γ.also fun k => k = b ∧ ∃ c, Γ.κ id = some c) (set σ id (.row e s n f true)) j → j ≠ id ∧ LiveId Γ σ j := fun j hlj => by
    obtain ⟨x, hx, hlx⟩ := liveId_iff.1 hlj
    have hj : j ≠ id := fun e => by
      subst e; rw [get_set_same hg] at hx; cases hx; simp [LiveE] at hlx
    exact ⟨hj, liveId_iff.2 ⟨x, key j x hj hx, by cases x <;> exact hlx⟩⟩
  refine ⟨fun k hI => ?_, fun j x hx => ?_, fun i j k hi hj => h.inj i j k (kl i hi).2 (kl j hj).2, h.lay.mono (fun _ h => .inl h) (fun _ _ => rfl)⟩
  · rcases hI with hI | ⟨rfl, hc⟩
    · exact h.im k hI
    · exact hok0.block hc
  · by_cases hj : j = id
    · subst hj; rw [get_set_same hg] at hx; cases hx
      refine ⟨b, hb, ?_⟩
      rcases hok0 with h1 | ⟨c, h1, h2, h3, h4, h5, h6, xs, h7, h8, h9⟩
      · exact .inl h1
      · exact .inr ⟨c, h1, fun _ => .inr ⟨rfl, c, h1⟩, (fun hf => by cases hf), h4, h5, h6, xs, h7, h8, fun i k d hi hd => by
          obtain ⟨x, hx, hr⟩ := h9 i k d hi hd
          exact ⟨x, hx, hr.mono hle.im (fun _ _ => rfl)⟩⟩
    · have hx' := key j x hj hx
      obtain ⟨b', hb', hok⟩ := h.ok j x hx'
      refine ⟨b', hb', hok.mono hb' hle (fun _ _ => rfl) (fun _ => rfl) (fun hB hn => ?_)⟩
      rintro (hI | ⟨heq, hc⟩)
      · exact hn hI
      · subst heq
        rcases h.or_live hx' hb' hB with h1 | h1
        · exact hn h1
        · rcases h.or_live hg hb hc with h2 | h2
          · exact hn h2
          · exact hj (h.inj j id b' h1 h2 hb' hb)
theorem live_also {Γ : Cx} {p : Nat → Prop} {σ : Store} {k : Nat} : Live (Γ.also p) σ k ↔ Live Γ σ k := by
  constructor
  · rintro ⟨id, hl, hk⟩; exact ⟨id, hl.imp (fun h => h) (fun h => h), hk⟩
  · rintro ⟨id, hl, hk⟩; exact ⟨id, hl.imp (fun h => h) (fun h => h), hk⟩
theorem live_set_frozen {Γ : Cx} {σ : Store} {id k : Nat} {e : TypeId} {s n : Nat} {f : Nat → List D} {x : Ent} (hg : get σ id = some x) (h : Live Γ (set σ id (.row e s n f true)) k) : Live Γ σ k := by
  obtain ⟨j, hlj, hk⟩ := h
  obtain ⟨y, hy, hly⟩ := liveId_iff.1 hlj
  by_cases hj : j = id
  · subst hj; rw [get_set_same hg] at hy; cases hy; simp [LiveE] at hly
  · rw [get_set_other hj] at hy
    exact ⟨j, liveId_iff.2 ⟨y, hy, hly⟩, hk⟩
theorem Ext.grow {base : Nat} {Γ Γ' : Cx} {w w' : World} {σ : Store} (hρ : ∀ id, id < base → Γ'.ρ id = Γ.ρ id) (hκ : ∀ id, id < base → Γ'.κ id = Γ.κ id) (him : ∀ k, Γ.I k → Γ'.I k) (hnew : ∀ k, Γ'.I k → Γ.I k ∨ w.heap.size ≤ k ∨ Live Γ σ k)
    (ho : w'.os = w.os) (ht : w'.tape = w.tape) (hu : w'.output = w.output)
    (hsz : w.heap.size ≤ w'.heap.size) (hk : ∀ k, k < w.heap.size → ¬ Live Γ σ k → w'.heap[k]? = w.heap[k]?) (σ' : Store) (hl : ∀ k, Live Γ' σ' k → Live Γ σ k ∨ w.heap.size ≤ k) :
    Ext base Γ w σ Γ' w' σ' :=
  ⟨ho, ht, hu, hsz, him, hnew, hρ, hκ, hk, hl⟩
theorem upd_ρ {Γ : Cx} {id b : Nat} {κ : Option Nat} {i : Nat} (h : i ≠ id) : (Γ.upd id b κ).ρ i = Γ.ρ i := by simp [Cx.upd, h]
theorem upd_κ {Γ : Cx} {id b : Nat} {κ : Option Nat} {i : Nat} (h : i ≠ id) : (Γ.upd id b κ).κ i = Γ.κ i := by simp [Cx.upd, h]
theorem upd_ρ_same {Γ : Cx} {id b : Nat} {κ : Option Nat} : (Γ.upd id b κ).ρ id = some b := by simp [Cx.upd]
theorem upd_κ_same {Γ : Cx} {id b : Nat} {κ : Option Nat} : (Γ.upd id b κ).κ id = κ := by simp [Cx.upd]
theorem heap_alloc {w : World} {o : Obj} {k : Nat} (h : k < w.heap.size) : (w.alloc o).heap[k]? = w.heap[k]? := Below.heap_alloc w o k h
theorem heap_alloc_new' (w : World) (o : Obj) : (w.alloc o).heap[w.heap.size]? = some o := by
  show (w.heap.push o)[w.heap.size]? = some o
  simp
theorem StoreOk.fresh {Γ : Cx} {w w' : World} {σ : Store} {id b : Nat} {κ : Option Nat} {e : Ent} (h : StoreOk Γ w σ) (hid : Γ.ρ id = none)
    (hsz : w.heap.size ≤ w'.heap.size) (hk : ∀ k, k < w.heap.size → k ≠ b → w'.heap[k]? = w.heap[k]?) (hb : LiveE (Γ.upd id b κ) id e → ¬ Live Γ σ b) (hbI : w'.heap[b]? = w.heap[b]? ∨ (¬ Γ.I b ∧ ¬ Live Γ σ b))
    (he : EntOk (Γ.upd id b κ) w' id b e) : StoreOk (Γ.upd id b κ) w' ((id, e) :: σ) := by
  have hle := CxLe.upd Γ b κ hid
  have hk' : ∀ k, k < w.heap.size → (Γ.I k ∨ Live Γ σ k) → w'.heap[k]? = w.heap[k]? := fun k hlt hor => by
    by_cases hkb : k = b
    · subst hkb
      rcases hbI with h1 | ⟨h1, h2⟩
      · exact h1
      · rcases hor with h3 | h3
        · exact absurd h3 h1
        · exact absurd h3 h2
    · exact hk k hlt hkb
  have h1 : StoreOk (Γ.upd id b κ) w' σ := h.keep hle (fun k hI => Nat.lt_of_lt_of_le (h.im k hI) hsz) (fun k hI => hk' k (h.im k hI) (.inl hI)) (fun k hl => hk' k (h.live_lt hl) (.inr hl)) (fun k hl hI => h.not_live hI hl)
  refine h1.cons upd_ρ_same he (fun hl j hj hlj hjb => ?_)
  have hlj' := (h.liveId hle j).1 hlj
  rw [upd_ρ hj] at hjb
  exact hb hl ⟨j, hlj', hjb⟩
theorem live_fresh {Γ : Cx} {w : World} {σ : Store} {id b : Nat} {κ : Option Nat} {e : Ent} (h : StoreOk Γ w σ) (hid : Γ.ρ id = none) {k : Nat} (hl : Live (Γ.upd id b κ) ((id, e) :: σ) k) :
    Live Γ σ k ∨ (k = b ∧ LiveE (Γ.upd id b κ) id e) := by
  obtain ⟨j, hlj, hk⟩ := hl
  obtain ⟨x, hx, hlx⟩ := liveId_iff.1 hlj
  by_cases hj : j = id
  · subst hj; rw [get_cons_same] at hx; cases hx; rw [upd_ρ_same] at hk; cases hk; exact .inr ⟨rfl, hlx⟩
  · rw [get_cons_other hj] at hx
    have hlj' : LiveId (Γ.upd id b κ) σ j := liveId_iff.2 ⟨x, hx, hlx⟩
    exact .inl ⟨j, (h.liveId (CxLe.upd Γ b κ hid) j).1 hlj', by rw [upd_ρ hj] at hk; exact hk⟩
theorem alloc_ent {base : Nat} {Γ : Cx} {w : World} {σ : Store} {id : Nat} (h : StoreOk Γ w σ) (hid : Γ.ρ id = none) (hbase : base ≤ id) (o : Obj) (κ : Option Nat) (e : Ent)
    (he : EntOk (Γ.upd id w.heap.size κ) (w.alloc o) id w.heap.size e) :
    StoreOk (Γ.upd id w.heap.size κ) (w.alloc o) ((id, e) :: σ) ∧ Ext base Γ w σ (Γ.upd id w.heap.size κ) (w.alloc o) ((id, e) :: σ) := by
  have hnI : ¬ Γ.I w.heap.size := fun hI => Nat.lt_irrefl _ (h.im _ hI)
  have hnL : ¬ Live Γ σ w.heap.size := fun hl => Nat.lt_irrefl _ (h.live_lt hl)
  refine ⟨h.fresh hid (by simp) (fun k hk _ => heap_alloc hk) (fun _ => hnL) (.inr ⟨hnI, hnL⟩) he,
    Ext.grow (Γ := Γ) (w := w) (w' := w.alloc o) (fun i hi => upd_ρ (by omega)) (fun i hi => upd_κ (by omega)) (fun _ h => h) (fun _ h => .inl h) rfl rfl rfl (by simp) (fun k hk _ => heap_alloc hk) _ (fun k hk => ?_)⟩
  rcases live_fresh h hid hk with h1 | ⟨rfl, _⟩
  · exact .inl h1
  · exact .inr (Nat.le_refl _)
theorem alloc_same {Γ : Cx} {w : World} {σ : Store} (h : StoreOk Γ w σ) (o : Obj) : Same Γ.I w (w.alloc o) := fun k hI => heap_alloc (h.im k hI)
theorem alloc_box {base : Nat} {Γ : Cx} {w : World} {σ : Store} {id : Nat} (h : StoreOk Γ w σ) (hid : Γ.ρ id = none) (hbase : base ≤ id) (t : TypeId) (xs : Array Value) (cs : List C) (hl : xs.size = cs.length)
    (hr : ∀ (i : Nat) (c : C), cs[i]? = some c → ∃ x, xs[i]? = some x ∧ RepC Γ w c x) :
    StoreOk (Γ.upd id w.heap.size none) (w.alloc (.cells xs t)) ((id, .box cs) :: σ) ∧
      Ext base Γ w σ (Γ.upd id w.heap.size none) (w.alloc (.cells xs t)) ((id, .box cs) :: σ) := by
  refine alloc_ent h hid hbase _ _ _ ⟨fun hI => Nat.lt_irrefl _ (h.im _ hI), xs, t, heap_alloc_new' _ _, hl, fun i c hc => ?_⟩
  obtain ⟨x, hx, hc'⟩ := hr i c hc
  exact ⟨x, hx, hc'.mono (CxLe.upd _ _ _ hid) (alloc_same h _)⟩
theorem alloc_row {base : Nat} {Γ : Cx} {w : World} {σ : Store} {id : Nat} (h : StoreOk Γ w σ) (hid : Γ.ρ id = none) (hbase : base ≤ id) (e : TypeId) (s n c : Nat) (f : Nat → List D) (xs : Array Value) (hn : n ≤ c) (hc : c ≤ maxLen)
    (hl : xs.size = c * s) (hf : ∀ i, i < n → (f i).length = s) (hr : ∀ (i j : Nat) (d : D), i < n → (f i)[j]? = some d → ∃ x, xs[i * s + j]? = some x ∧ RepD Γ.I w d x) :
    StoreOk (Γ.upd id w.heap.size (some c)) (w.alloc (.cells xs e)) ((id, .row e s n f false) :: σ) ∧
      Ext base Γ w σ (Γ.upd id w.heap.size (some c)) (w.alloc (.cells xs e)) ((id, .row e s n f false) :: σ) := by
  refine alloc_ent h hid hbase _ _ _ (.inr ⟨c, upd_κ_same, (fun hf => by cases hf), fun _ hI => Nat.lt_irrefl _ (h.im _ hI), hn, hc, hf, xs, heap_alloc_new' _ _, hl, fun i j d hi hd => ?_⟩)
  obtain ⟨x, hx, hc'⟩ := hr i j d hi hd
  exact ⟨x, hx, hc'.mono (fun _ h => h) (alloc_same h _)⟩
theorem name_nil {base : Nat} {Γ : Cx} {w : World} {σ : Store} {id : Nat} (h : StoreOk Γ w σ) (hid : Γ.ρ id = none) (hbase : base ≤ id) (e : TypeId) (s : Nat) (f : Nat → List D) :
    StoreOk (Γ.upd id 0 none) w ((id, .row e s 0 f false) :: σ) ∧ Ext base Γ w σ (Γ.upd id 0 none) w ((id, .row e s 0 f false) :: σ) := by
  have hnl : ¬ LiveE (Γ.upd id 0 none) id (.row e s 0 f false) := fun ⟨_, c, hc⟩ => by rw [upd_κ_same] at hc; cases hc
  refine ⟨h.fresh hid (Nat.le_refl _) (fun _ _ _ => rfl) (fun hl => absurd hl hnl) (.inl rfl) (.inl ⟨upd_κ_same, rfl⟩),
    Ext.grow (Γ := Γ) (w := w) (w' := w) (fun i hi => upd_ρ (by omega)) (fun i hi => upd_κ (by omega)) (fun _ h => h) (fun _ h => .inl h) rfl rfl rfl (Nat.le_refl _) (fun k _ _ => rfl) _ (fun k hk => ?_)⟩
  rcases live_fresh h hid hk with h1 | ⟨_, h1⟩
  · exact .inl h1
  · exact absurd h1 hnl
theorem alloc_still {base : Nat} {Γ : Cx} {w : World} {σ : Store} (h : StoreOk Γ w σ) (o : Obj) :
    StoreOk (Γ.also fun k => k = w.heap.size) (w.alloc o) σ ∧ Ext base Γ w σ (Γ.also fun k => k = w.heap.size) (w.alloc o) σ := by
  have hle : CxLe Γ (Γ.also fun k => k = w.heap.size) := CxLe.also _ _
  refine ⟨h.keep hle (fun k hI => ?_) (alloc_same h o) (fun k hl => heap_alloc (h.live_lt hl)) (fun k hl hI => ?_),
    Ext.grow (Γ := Γ) (Γ' := Γ.also fun k => k = w.heap.size) (w := w) (w' := w.alloc o) (fun _ _ => rfl) (fun _ _ => rfl) (fun _ h => .inl h) (fun k h => h.imp id (fun e => .inl (Nat.le_of_eq e.symm))) rfl rfl rfl (by simp) (fun k hk _ => heap_alloc hk) _ (fun k hk => .inl (live_also.1 hk))⟩
  · rcases hI with hI | rfl
    · have := h.im k hI; simp; omega
    · simp
  · rcases hI with hI | rfl
    · exact h.not_live hI hl
    · exact Nat.lt_irrefl _ (h.live_lt hl)
theorem Ext.modify {base : Nat} {Γ : Cx} {w w' : World} {σ σ' : Store} {id b : Nat} (hl : LiveId Γ σ id) (hb : Γ.ρ id = some b) (ho : w'.os = w.os) (ht : w'.tape = w.tape) (hu : w'.output = w.output)
    (hsz : w.heap.size ≤ w'.heap.size) (hk : ∀ k, k < w.heap.size → k ≠ b → w'.heap[k]? = w.heap[k]?) (hl' : ∀ k, Live Γ σ' k → Live Γ σ k) : Ext base Γ w σ Γ w' σ' :=
  ⟨ho, ht, hu, hsz, fun _ h => h, fun _ h => .inl h, fun _ _ => rfl, fun _ _ => rfl, fun k hk' hn => hk k hk' (fun e => hn ⟨id, hl, e ▸ hb⟩), fun k hk => .inl (hl' k hk)⟩
theorem live_set {Γ : Cx} {σ : Store} {id k : Nat} {e e' : Ent} (hg : get σ id = some e) (hl : LiveE Γ id e) (h : Live Γ (set σ id e') k) : Live Γ σ k := by
  obtain ⟨j, hlj, hk⟩ := h
  by_cases hj : j = id
  · subst hj; exact ⟨j, liveId_iff.2 ⟨e, hg, hl⟩, hk⟩
  · obtain ⟨x, hx, hlx⟩ := liveId_iff.1 hlj
    rw [get_set_other hj] at hx
    exact ⟨j, liveId_iff.2 ⟨x, hx, hlx⟩, hk⟩
theorem StoreOk.moved {base : Nat} {Γ : Cx} {w w' : World} {σ : Store} {id id' b : Nat} {κ : Option Nat} {x e : Ent} (h : StoreOk Γ w σ) (hg : get σ id = some x) (hid : Γ.ρ id' = none) (hbase : base ≤ id')
    (ho : w'.os = w.os) (ht : w'.tape = w.tape) (hu : w'.output = w.output)
    (hsz : w.heap.size ≤ w'.heap.size) (hk : ∀ k, k < w.heap.size → (∀ b0, Γ.ρ id = some b0 → HasB Γ id x → k ≠ b0) → w'.heap[k]? = w.heap[k]?)
    (hx : LiveE Γ id x ∨ ¬ HasB Γ id x) (hb : (Γ.ρ id = some b ∧ HasB Γ id x) ∨ w.heap.size ≤ b ∨ ¬ LiveE (Γ.upd id' b κ) id' e)
    (he : EntOk (Γ.upd id' b κ) w' id' b e) :
    StoreOk (Γ.upd id' b κ) w' ((id', e) :: Pw.del σ id) ∧ Ext base Γ w σ (Γ.upd id' b κ) w' ((id', e) :: Pw.del σ id) := by
  have hle := CxLe.upd Γ b κ hid
  have hd := h.del id
  have hne : ∀ j, LiveId Γ (Pw.del σ id) j → ∀ b0, Γ.ρ id = some b0 → HasB Γ id x → Γ.ρ j ≠ some b0 := fun j hl b0 hb0 hB heq => by
    obtain ⟨hj, hl'⟩ := liveId_del hl
    rcases hx with hx | hx
    · exact hj (h.inj j id b0 hl' (liveId_iff.2 ⟨x, hg, hx⟩) heq hb0)
    · exact hx hB
  have hnI : ∀ b0, Γ.ρ id = some b0 → HasB Γ id x → ¬ Γ.I b0 := fun b0 hb0 hB hI => by
    rcases hx with hx | hx
    · exact h.not_live hI ⟨id, liveId_iff.2 ⟨x, hg, hx⟩, hb0⟩
    · exact hx hB
  have hs : Same Γ.I w w' := fun k hI => hk k (h.im k hI) (fun b0 hb0 hB e => hnI b0 hb0 hB (e ▸ hI))
  have hlv : ∀ k, Live Γ (Pw.del σ id) k → w'.heap[k]? = w.heap[k]? := fun k hl => by
    obtain ⟨j, hlj, hj⟩ := hl
    exact hk k (hd.live_lt ⟨j, hlj, hj⟩) (fun b0 hb0 hB e => hne j hlj b0 hb0 hB (e ▸ hj))
  have h1 : StoreOk (Γ.upd id' b κ) w' (Pw.del σ id) := hd.keep hle (fun k hI => Nat.lt_of_lt_of_le (h.im k hI) hsz) hs hlv (fun k hl hI => hd.not_live hI hl)
  have h2 : StoreOk (Γ.upd id' b κ) w' ((id', e) :: Pw.del σ id) := by
    refine h1.cons upd_ρ_same he (fun hl j hj hlj hjb => ?_)
    have hlj' := (hd.liveId hle j).1 hlj
    rw [upd_ρ hj] at hjb
    rcases hb with ⟨h3, h4⟩ | h3 | h3
    · exact hne j hlj' b h3 h4 hjb
    · have := hd.live_lt ⟨j, hlj', hjb⟩; omega
    · exact h3 hl
  refine ⟨h2, Ext.grow (Γ := Γ) (w := w) (w' := w') (fun i hi => upd_ρ (by omega)) (fun i hi => upd_κ (by omega)) (fun _ h => h) (fun _ h => .inl h) ho ht hu hsz (fun k hlt hn => hk k hlt (fun b0 hb0 hB e => ?_)) _ (fun k hk => ?_)⟩
  · rcases hx with hx | hx
    · exact hn ⟨id, liveId_iff.2 ⟨x, hg, hx⟩, e ▸ hb0⟩
    · exact hx hB
  · rcases live_fresh hd hid hk with h3 | ⟨rfl, h3⟩
    · exact .inl (live_del h3)
    · rcases hb with ⟨h4, h5⟩ | h4 | h4
      · rcases hx with hx | hx
        · exact .inl ⟨id, liveId_iff.2 ⟨x, hg, hx⟩, h4⟩
        · exact absurd h5 hx
      · exact .inr h4
      · exact absurd h3 h4
inductive LOp where
  | mv (x : Operand)
  | nilc (x : Operand)
  | pick (c a b : Operand)
  | alloc (zero : List Value)
  | box (x : Operand)
  | boxS (x : Operand)
  | build (zero : List Value) (parts : List (Nat × Nat × Operand))
  | lit (own : Bool) (e : TypeId) (s : Nat) (parts : List Operand)
  | load (agg : Bool) (n : Nat) (a : Operand)
  | store (n : Nat) (a x : Operand)
  | bin (op : BinOp) (x y : Operand)
  | binW (op : BinOp) (x y : Operand)
  | eqA (neg : Bool) (ks : List Bool) (x y : Operand)
  | eqB (neg : Bool) (x y : Operand)
  | un (op : UnOp) (x : Operand)
  | conv (k : IntKind) (x : Operand)
  | mkfn (f : FuncId) (caps : List Operand)
  | mkfnB (f : FuncId) (x : Operand)
  | eqS (neg : Bool) (x y : Operand)
  | make (own : Bool) (e : TypeId) (s bytes : Nat) (zero : List Value) (len : Operand)
  | slc (s : Nat) (x : Operand) (lo hi : Option Operand)
  | slcS (x : Operand) (lo hi : Option Operand)
  | fld (off : Nat) (x : Operand)
  | idx (s : Nat) (x i : Operand)
  | idxA (s len : Nat) (x i : Operand)
  | part (agg : Bool) (off n : Nat) (x : Operand)
  | index (agg : Bool) (s len : Nat) (x i : Operand)
  | indexS (x i : Operand)
  | ext (x : Operand) (i : Nat)
  | len (x : Operand)
  | lenS (x : Operand)
  | append (own : Bool) (e : TypeId) (s bytes : Nat) (x y : Operand)
  | mm (isMax : Bool) (xs : List Operand)
  | toF (x : Operand)
  | toI (x : Operand)
  | cplx (x y : Operand)
  | cbin (op : BinOp) (x y : Operand)
  | reC (x : Operand)
  | imC (x : Operand)
  | mkmap (m : Nat)
  | mset (m : Nat) (a k x : Operand)
  | lenM (a : Operand)
  | mget (m : Nat) (ok : Bool) (a k : Operand)
  | isnil (neg : Bool) (x : Operand)
  | clip (s : Nat) (x h m : Operand)
  | slc3 (s : Nat) (x l h m : Operand)
  | appendN (e : TypeId) (s bytes : Nat) (zero : List Value) (x n : Operand)
  | cap (x : Operand)
  | catS (x y : Operand)
  | nilI (neg : Bool) (x y : Operand)
  | strB (x : Operand)
  | arrP (s n : Nat) (x : Operand)
  | litP (parts : List Operand)
  | call (f : Operand) (args : List Operand)
  | bad
structure LIns where
  dst : Option Nat
  op : LOp
  guard : Option (Nat × Bool)
abbrev Res := Prop × V × Store × Nat
def R64 (n : Int) : Prop := -9223372036854775808 ≤ n ∧ n ≤ 9223372036854775807
def frc {R : Type} : List C → (List C → Option R) → Option R
  | [], k => k []
  | c :: cs, k => frc cs fun l => k (c :: l)
def frs {R : Type} : Store → (Store → Option R) → Option R
  | [], k => k []
  | (i, e) :: cs, k => frs cs fun l => k ((i, e) :: l)
def tkc {R : Type} : Nat → List C → (List C → Option R) → Option R
  | 0, _, k => k []
  | n + 1, c :: cs, k => tkc n cs fun l => k (c :: l)
  | _ + 1, [], _ => none
def tkd {R : Type} : Nat → List D → (List C → Option R) → Option R
  | 0, _, k => k []
  | n + 1, c :: cs, k => tkd n cs fun l => k (.d c :: l)
  | _ + 1, [], _ => none
theorem frc_eq {R : Type} (l : List C) : ∀ (k : List C → Option R), frc l k = k l := by
  induction l with
  | nil => intro k; rfl
  | cons c cs ih => intro k; simp only [frc, ih]
theorem frs_eq {R : Type} (l : Store) : ∀ (k : Store → Option R), frs l k = k l := by
  induction l with
  | nil => intro k; rfl
  | cons c cs ih => intro k; simp only [frs, ih]
theorem tkc_some {R : Type} : ∀ (n : Nat) (l : List C) (k : List C → Option R) (r : R), tkc n l k = some r → n ≤ l.length ∧ k (l.take n) = some r
  | 0, l, k, r, h => ⟨Nat.zero_le _, by simpa [tkc] using h⟩
  | n + 1, [], k, r, h => by simp [tkc] at h
  | n + 1, c :: cs, k, r, h => by
    have := tkc_some n cs _ r h
    exact ⟨by simp; exact this.1, by simpa using this.2⟩
theorem tkd_some {R : Type} : ∀ (n : Nat) (l : List D) (k : List C → Option R) (r : R), tkd n l k = some r → n ≤ l.length ∧ k ((l.take n).map .d) = some r
  | 0, l, k, r, h => ⟨Nat.zero_le _, by simpa [tkd] using h⟩
  | n + 1, [], k, r, h => by simp [tkd] at h
  | n + 1, c :: cs, k, r, h => by
    have := tkd_some n cs _ r h
    exact ⟨by simp; exact this.1, by simpa using this.2⟩
def putC : List C → Nat → List C → List C
  | cs, 0, [] => cs
  | _ :: cs, 0, x :: l => x :: putC cs 0 l
  | c :: cs, o + 1, l => c :: putC cs o l
  | [], _, _ => []
def putD : List D → Nat → List D → List D
  | cs, _, [] => cs
  | [], _, _ => []
  | _ :: cs, 0, d :: ds => d :: putD cs 0 ds
  | c :: cs, n + 1, ds => c :: putD cs n ds
def setRw (f : Nat → List D) (i j : Nat) (ds : List D) (k : Nat) : List D :=
  match Nat.beq k i with
  | true => putD (f i) j ds
  | false => f k
theorem putD_len : ∀ (cs : List D) (n : Nat) (ds : List D), (putD cs n ds).length = cs.length := by
  intro cs n ds
  fun_induction putD cs n ds <;> simp_all
theorem putD_get : ∀ (cs : List D) (n : Nat) (ds : List D), n + ds.length ≤ cs.length → ∀ j, (putD cs n ds)[j]? = if n ≤ j ∧ j < n + ds.length then ds[j - n]? else cs[j]? := by
  intro cs n ds
  fun_induction putD cs n ds with
  | case1 cs n => intro _ j; simp; intro h1 h2; omega
  | case2 n ds h => intro hl j; cases ds with | nil => exact absurd rfl (h) | cons => simp at hl
  | case3 c cs d ds ih =>
    intro hl j
    have ih := ih (by simp at hl ⊢; omega)
    cases j with
    | zero => simp
    | succ j => simp only [List.getElem?_cons_succ, ih j, Nat.zero_le, true_and, Nat.zero_add, List.length_cons, Nat.sub_zero]; split <;> split <;> first | rfl | omega
  | case4 c cs n ds h ih =>
    intro hl j
    have ih := ih (by simp at hl ⊢; omega)
    cases j with
    | zero => simp
    | succ j => simp only [List.getElem?_cons_succ, ih j]; split <;> split <;> first | rfl | (exfalso; omega) | (congr 1; omega)
theorem putC_length : ∀ (cs : List C) (o : Nat) (l : List C), (putC cs o l).length = cs.length
  | [], 0, [] => rfl
  | [], 0, _ :: _ => rfl
  | [], _ + 1, _ => rfl
  | _ :: cs, 0, [] => rfl
  | _ :: cs, 0, x :: l => by simp [putC, putC_length cs 0 l]
  | c :: cs, o + 1, l => by simp [putC, putC_length cs o l]
theorem putC_eq : ∀ (cs : List C) (o : Nat) (l : List C), o + l.length ≤ cs.length → putC cs o l = cs.take o ++ l ++ cs.drop (o + l.length)
  | cs, 0, [], _ => by cases cs <;> simp [putC]
  | [], 0, _ :: _, h => by simp at h
  | [], o + 1, l, h => by simp at h
  | _ :: cs, 0, x :: l, h => by
    have := putC_eq cs 0 l (by simp at h ⊢; omega)
    simp only [Nat.zero_add, List.take_zero, List.nil_append] at this
    simp [putC, this]
  | c :: cs, o + 1, l, h => by
    have := putC_eq cs o l (by simp at h ⊢; omega)
    simp [putC, this, Nat.add_right_comm]
def vcells : V → Option (List C)
  | .c x => some [x]
  | .agg cs => some cs
  | _ => none
def toD : C → Option D
  | .d x => some x
  | .tru => some (.v (.bool true))
  | .fls => some (.v (.bool false))
  | _ => none
def toDs {R : Type} : List C → (List D → Option R) → Option R
  | [], k => k []
  | .d x :: cs, k => toDs cs fun l => k (x :: l)
  | .tru :: cs, k => toDs cs fun l => k (.v (.bool true) :: l)
  | .fls :: cs, k => toDs cs fun l => k (.v (.bool false) :: l)
  | _ :: _, _ => none
def kn : IntKind → Nat
  | .i8 => 0 | .i16 => 1 | .i32 => 2 | .i64 => 3 | .u8 => 4 | .u16 => 5 | .u32 => 6 | .u64 => 7
def ksame (a b : IntKind) : Bool := Nat.beq (kn a) (kn b)
theorem ksame_eq {a b : IntKind} (h : ksame a b = true) : a = b := by
  revert h; cases a <;> cases b <;> simp [ksame, kn]
abbrev vi (k : IntKind) (n : Int) : V := .c (.d (.v (.int k n)))
abbrev vbl (b : Bool) : V := .c (.d (.v (.bool b)))
def arith (op : BinOp) (k : IntKind) (a b : Int) : Option (Prop × V) :=
  match op with
  | .add => match k with | .i64 => some (R64 (a + b), vi .i64 (a + b)) | k => some (True, vi k (k.wrap (a + b)))
  | .sub => match k with | .i64 => some (R64 (a - b), vi .i64 (a - b)) | k => some (True, vi k (k.wrap (a - b)))
  | .mul => match k with | .i64 => some (R64 (a * b), vi .i64 (a * b)) | k => some (True, vi k (k.wrap (a * b)))
  | .quo => match k with | .i64 => some (b ≠ 0 ∧ R64 (a.tdiv b), vi .i64 (a.tdiv b)) | k => some (b ≠ 0, vi k (k.wrap (a.tdiv b)))
  | .rem => some (b ≠ 0, vi k (a.tmod b))
  | .eql => some (True, vbl (decide (a = b)))
  | .neq => some (True, vbl (!decide (a = b)))
  | .lss => some (True, vbl (decide (a < b)))
  | .leq => some (True, vbl (decide (a ≤ b)))
  | .gtr => some (True, vbl (decide (b < a)))
  | .geq => some (True, vbl (decide (b ≤ a)))
  | .and => some (True, vi k (k.wrap (BitVec.ofInt k.bits a &&& BitVec.ofInt k.bits b).toNat))
  | .or => some (True, vi k (k.wrap (BitVec.ofInt k.bits a ||| BitVec.ofInt k.bits b).toNat))
  | .xor => some (True, vi k (k.wrap (BitVec.ofInt k.bits a ^^^ BitVec.ofInt k.bits b).toNat))
  | _ => none
def shiftV (op : BinOp) (k : IntKind) (a b : Int) : Option (Prop × V) :=
  match op with
  | .shl => some (0 ≤ b, vi k (k.wrap (a * 2 ^ min b.toNat k.bits)))
  | .shr => some (0 ≤ b, vi k (a.fdiv (2 ^ min b.toNat k.bits)))
  | _ => none
def isShift : BinOp → Bool
  | .shl | .shr => true
  | _ => false
def binV (op : BinOp) (k : IntKind) (a : Int) (k' : IntKind) (b : Int) : Option (Prop × V) :=
  match isShift op with
  | true => shiftV op k a b
  | false => match ksame k k' with
    | true => arith op k a b
    | false => none
def arithW (op : BinOp) (k : IntKind) (a b : Int) : Option V :=
  match op with
  | .add => some (vi k (k.wrap (a + b)))
  | .sub => some (vi k (k.wrap (a - b)))
  | .mul => some (vi k (k.wrap (a * b)))
  | _ => none
def cb : C → Option Bool
  | .tru => some true
  | .fls => some false
  | .d (.v (.bool b)) => some b
  | _ => none
def eqR {R : Type} : List Bool → List C → List C → Bool → (Bool → Option R) → Option R
  | [], [], [], acc, q => q acc
  | false :: ks, .d (.v (.int k a)) :: xs, .d (.v (.int k' b)) :: ys, acc, q => match ksame k k' with | true => eqR ks xs ys (acc && decide (a = b)) q | false => none
  | true :: ks, x :: xs, y :: ys, acc, q => match cb x, cb y with
    | some a, some b => eqR ks xs ys (acc && (a == b)) q
    | _, _ => none
  | _, _, _, _, _ => none
def eqC {R : Type} : List Bool → List C → List C → (Bool → Option R) → Option R
  | false :: ks, .d (.v (.int k a)) :: xs, .d (.v (.int k' b)) :: ys, q => match ksame k k' with | true => eqR ks xs ys (decide (a = b)) q | false => none
  | true :: ks, x :: xs, y :: ys, q => match cb x, cb y with
    | some a, some b => eqR ks xs ys (a == b) q
    | _, _ => none
  | _, _, _, _ => none
def ids {R : Type} (ev : Operand → V) : List Operand → (List Nat → Option R) → Option R
  | [], k => k []
  | x :: xs, k => match ev x with
    | .c (.bp id 0) => ids ev xs fun l => k (id :: l)
    | _ => none
def rps {R : Type} (ev : Operand → V) : List Operand → (List (List D) → Option R) → Option R
  | [], k => k []
  | x :: xs, k => match ev x with
    | .c (.rp r) => rps ev xs fun l => k (r :: l)
    | _ => none
def zeros {R : Type} : List Value → (List C → Option R) → Option R
  | [], k => k []
  | x :: xs, k => zeros xs fun l => k (.d (.v x) :: l)
def bld {R : Type} (ev : Operand → V) : List (Nat × Nat × Operand) → List C → (List C → Option R) → Option R
  | [], cs, k => k cs
  | (off, n, x) :: ps, cs, k => match vcells (ev x) with
    | some l => match Nat.beq l.length n, Nat.ble (off + n) cs.length with
      | true, true => frc (putC cs off l) fun cs' => bld ev ps cs' k
      | _, _ => none
    | none => none
def rowsOf {R : Type} (ev : Operand → V) (s : Nat) : List Operand → (List (List D) → Option R) → Option R
  | [], k => k []
  | x :: xs, k => match vcells (ev x) with
    | some l => match Nat.beq l.length s with
      | true => toDs l fun ds => rowsOf ev s xs fun rs => k (ds :: rs)
      | false => none
    | none => none
def mmx (isMax : Bool) (ev : Operand → V) (k : IntKind) : List Operand → Int → Option V
  | [], a => some (vi k a)
  | x :: xs, a => match ev x with
    | .c (.d (.v (.int k' b))) => match ksame k k' with
      | true => match isMax with
        | true => mmx isMax ev k xs (max a b)
        | false => mmx isMax ev k xs (min a b)
      | false => none
    | _ => none
def vbool {R : Type} (v : V) (k : Bool → Option R) : Option R :=
  match v with
  | .c .tru => k true
  | .c .fls => k false
  | .c (.d (.v (.bool b))) => k b
  | _ => none
def E53 (n : Int) : Prop := -9007199254740992 < n ∧ n < 9007199254740992
def mval (m : Nat) (v : V) : Option Int :=
  match m with
  | 0 => match v with
    | .agg [] => some 0
    | _ => none
  | 1 => match v with
    | .c (.d (.v (.int .i64 n))) => some n
    | _ => none
  | 2 => match v with
    | .c .tru => some 1
    | .c .fls => some 0
    | _ => none
  | _ => none
def mput (es : List (Int × Int)) (k z : Int) : List (Int × Int) :=
  match es with
  | [] => [(k, z)]
  | (a, y) :: es => if a = k then (a, z) :: es else (a, y) :: mput es k z
def mlook (es : List (Int × Int)) (n : Int) : Option Int :=
  match es with
  | [] => none
  | (a, y) :: es => if a = n then some y else mlook es n
def mgv (m : Nat) (ok : Bool) (r : Option Int) : Option V :=
  match m with
  | 0 => none
  | 1 => match ok with
    | true => some (.tup [vi .i64 (r.getD 0), vbl r.isSome])
    | false => some (vi .i64 (r.getD 0))
  | _ => match ok with
    | true => some (.tup [vbl (decide (r.getD 0 ≠ 0)), vbl r.isSome])
    | false => some (vbl (decide (r.getD 0 ≠ 0)))
def flatD (f : Nat → List D) : Nat → Nat → List D
  | 0, _ => []
  | k + 1, i => f i ++ flatD f k (i + 1)
abbrev cutB (b : ByteArray) (i j : Nat) : ByteArray := ⟨((b.data.toList.take j).drop i).toArray⟩
def cellsOf {R : Type} (ev : Operand → V) : List Operand → (List C → Option R) → Option R
  | [], k => k []
  | x :: xs, k => match ev x with
    | .c c => cellsOf ev xs fun cs => k (c :: cs)
    | _ => none
def xop (ev : Operand → V) (σ : Store) (nx : Nat) : LOp → Option Res
  | .mv x => match ev x with
    | .c y => some (True, .c y, σ, nx)
    | .agg y => some (True, .agg y, σ, nx)
    | .tup y => some (True, .tup y, σ, nx)
    | .unk => some (True, .unk, σ, nx)
  | .nilc x => match ev x with
    | .c (.fn f l) => some (True, .c (.fn f l), σ, nx)
    | .c (.bp i o) => some (True, .c (.bp i o), σ, nx)
    | .c (.rp r) => some (True, .c (.rp r), σ, nx)
    | .c (.yd i) => some (True, .c (.yd i), σ, nx)
    | _ => none
  | .pick c a b => match ev c with
    | .c .tru => match ev a with | .c y => some (True, .c y, σ, nx) | _ => none
    | .c .fls => match ev b with | .c y => some (True, .c y, σ, nx) | _ => none
    | _ => none
  | .alloc zero => zeros zero fun cs => some (True, .c (.bp nx 0), (nx, .box cs) :: σ, nx + 1)
  | .box x => match vcells (ev x) with
    | some l => some (True, .c (.bp nx 0), (nx, .box l) :: σ, nx + 1)
    | none => none
  | .boxS x => match vcells (ev x) with
    | some l => toDs l fun ds => some (True, .c (.rp ds), σ, nx)
    | none => none
  | .build zero parts => zeros zero fun cs => bld ev parts cs fun cs' => some (True, .agg cs', σ, nx)
  | .lit own e s parts => rowsOf ev s parts fun rs =>
    match rs with
    | [] => some (True, .c .z, σ, nx)
    | r :: rs => match own with
      | true => some (True, .c (.ms nx (r :: rs).length), (nx, .row e s (r :: rs).length (fun i => (r :: rs).getD i []) false) :: σ, nx + 1)
      | false => some (True, .c (.d (.sl s (r :: rs).length fun i => (r :: rs).getD i [])), σ, nx)
  | .load agg n a => match ev a with
    | .c (.bp id off) => match get σ id with
      | some (.box cs) => match agg with
        | true => tkc n (cs.drop off) fun l => some (True, .agg l, σ, nx)
        | false => match cs.drop off with
          | c :: _ => some (True, .c c, σ, nx)
          | [] => none
      | _ => none
    | .c (.rp row) => match agg with
      | true => tkd n row fun l => some (True, .agg l, σ, nx)
      | false => match row with
        | d :: _ => some (True, .c (.d d), σ, nx)
        | [] => none
    | .c (.ep id s i j) => match get σ id with
      | some (.row _ s' m f _) => match Nat.beq s s' with
        | true => match agg with
          | true => tkd n ((f i).drop j) fun l => some (i < m, .agg l, σ, nx)
          | false => match (f i).drop j with
            | d :: _ => some (i < m, .c (.d d), σ, nx)
            | [] => none
        | false => none
      | _ => none
    | _ => none
  | .store n a x => match ev a with
    | .c (.bp id off) => match get σ id with
      | some (.box cs) => match vcells (ev x) with
        | some l => match Nat.beq l.length n, Nat.ble (off + n) cs.length with
          | true, true => frc (putC cs off l) fun cs' => frs (set σ id (.box cs')) fun σ' => some (True, .unk, σ', nx)
          | _, _ => none
        | none => none
      | _ => none
    | .c (.ep id s i j) => match get σ id with
      | some (.row e s' m f false) => match vcells (ev x) with
        | some l => toDs l fun ds => match Nat.beq s s', Nat.beq l.length n, Nat.ble (j + n) s with
          | true, true, true => frs (set σ id (.row e s m (setRw f i j ds) false)) fun σ' => some (i < m, .unk, σ', nx)
          | _, _, _ => none
        | none => none
      | _ => none
    | _ => none
  | .bin op x y => match ev x, ev y with
    | .c (.d (.v (.int k a))), .c (.d (.v (.int k' b))) => match binV op k a k' b with
      | some (p, v) => some (p, v, σ, nx)
      | none => none
    | _, _ => none
  | .binW op x y => match ev x, ev y with
    | .c (.d (.v (.int k a))), .c (.d (.v (.int k' b))) => match ksame k k' with
      | true => match arithW op k a b with
        | some v => some (True, v, σ, nx)
        | none => none
      | false => none
    | _, _ => none
  | .eqA neg ks x y => match ev x, ev y with
    | .agg xs, .agg ys => eqC ks xs ys fun r => match neg with
      | true => some (True, vbl (!r), σ, nx)
      | false => some (True, vbl r, σ, nx)
    | _, _ => none
  | .eqB neg x y => vbool (ev x) fun p => vbool (ev y) fun q => match neg with
    | true => some (True, vbl (p != q), σ, nx)
    | false => some (True, vbl (p == q), σ, nx)
  | .un op x => match op, ev x with
    | .not, .c .tru => some (True, .c .fls, σ, nx)
    | .not, .c .fls => some (True, .c .tru, σ, nx)
    | .not, .c (.d (.v (.bool b))) => some (True, vbl (!b), σ, nx)
    | .neg, .c (.d (.v (.int .i64 n))) => some (R64 (-n), vi .i64 (-n), σ, nx)
    | .neg, .c (.fl n) => some (True, .c (.fl (-n)), σ, nx)
    | _, _ => none
  | .conv k x => match ev x with
    | .c (.d (.v (.int _ n))) => match k with
      | .i64 => some (R64 n, vi .i64 n, σ, nx)
      | k => some (True, vi k (k.wrap n), σ, nx)
    | _ => none
  | .mkfn f caps => match caps with
    | [] => some (True, .c (.fn f []), σ, nx)
    | x :: _ => match ev x with
      | .c (.rp _) => rps ev caps fun l => some (True, .c (.fnR f l), σ, nx)
      | _ => ids ev caps fun l => some (True, .c (.fn f l), σ, nx)
  | .mkfnB f x => match ev x with
    | .agg cs => toDs cs fun ds => some (True, .c (.fnB f ds), σ, nx)
    | _ => none
  | .eqS neg x y => match ev x, ev y with
    | .c (.d (.v (.string a))), .c (.d (.v (.string b))) => match neg with
      | true => some (True, vbl (!decide (a.data.toList = b.data.toList)), σ, nx)
      | false => some (True, vbl (decide (a.data.toList = b.data.toList)), σ, nx)
    | _, _ => none
  | .make own e s bytes zero len => match ev len with
    | .c (.d (.v (.int _ n))) => match own with
      | true => some (0 ≤ n ∧ n * (bytes : Int) ≤ 140737488355328, .c (.ms nx n.toNat), (nx, .row e s n.toNat (fun _ => zero.map .v) false) :: σ, nx + 1)
      | false => some (0 ≤ n ∧ n * (bytes : Int) ≤ 140737488355328, .c (.d (.sl s n.toNat fun _ => zero.map .v)), σ, nx)
    | _ => none
  | .slc s x lo hi => match ev x with
    | .c (.d (.sl s' n f)) => match Nat.beq s s' with
      | true => match lo, hi with
        | none, none => some (True, .c (.d (.sl s n f)), σ, nx)
        | none, some h => match ev h with
          | .c (.d (.v (.int _ h))) => some (0 ≤ h ∧ h ≤ n, .c (.d (.sl s h.toNat f)), σ, nx)
          | _ => none
        | some l, none => match ev l with
          | .c (.d (.v (.int _ l))) => some (0 ≤ l ∧ l ≤ n, .c (.d (.sl s (n - l.toNat) fun i => f (l.toNat + i))), σ, nx)
          | _ => none
        | some l, some h => match ev l, ev h with
          | .c (.d (.v (.int _ l))), .c (.d (.v (.int _ h))) => some (0 ≤ l ∧ l ≤ h ∧ h ≤ n, .c (.d (.sl s (h.toNat - l.toNat) fun i => f (l.toNat + i))), σ, nx)
          | _, _ => none
      | false => none
    | .c (.ms id n) => match lo, hi with
      | none, some h => match ev h with
        | .c (.d (.v (.int _ h))) => match get σ id with
          | some (.row e s' m f false) => match Nat.beq s s' with
            | true => frs (del σ id) fun σ' => some (0 ≤ h ∧ h ≤ n ∧ n ≤ m, .c (.ms nx h.toNat), (nx, .row e s h.toNat f false) :: σ', nx + 1)
            | false => none
          | _ => none
        | _ => none
      | _, _ => none
    | .c (.d (.v (.slice none 0 0))) => match lo, hi with
      | none, some h => match ev h with
        | .c (.d (.v (.int _ h))) => some (h = 0, .c (.d (.v (.slice none 0 0))), σ, nx)
        | _ => none
      | _, _ => none
    | _ => none
  | .appendN e s bytes zero x n => match ev x, ev n with
    | .c (.d (.v (.slice none 0 0))), .c (.d (.v (.int .i64 n))) => some (0 < n ∧ n * (bytes : Int) ≤ 140737488355328, .c (.ms nx n.toNat), (nx, .row e s n.toNat (fun _ => zero.map .v) false) :: σ, nx + 1)
    | _, _ => none
  | .slc3 s x l h m => match ev x, ev l, ev h, ev m with
    | .c (.d (.sl s' n f)), .c (.d (.v (.int _ c))), .c (.d (.v (.int _ a))), .c (.d (.v (.int _ b))) => match Nat.beq s s' with
      | true => some (a = b ∧ 0 ≤ c ∧ c ≤ a ∧ a ≤ n, .c (.d (.sl s (a.toNat - c.toNat) fun i => f (c.toNat + i))), σ, nx)
      | false => none
    | _, _, _, _ => none
  | .clip s x h m => match ev x, ev h, ev m with
    | .c (.d (.sl s' n f)), .c (.d (.v (.int _ a))), .c (.d (.v (.int _ b))) => match Nat.beq s s' with
      | true => some (a = b ∧ 0 ≤ a ∧ a ≤ n, .c (.cl s a.toNat f), σ, nx)
      | false => none
    | _, _, _ => none
  | .cap x => match ev x with
    | .c (.d (.v (.slice none 0 0))) => some (True, vi .i64 0, σ, nx)
    | .c (.cl _ n _) => some (True, vi .i64 n, σ, nx)
    | _ => none
  | .slcS x lo hi => match ev x with
    | .c (.d (.v (.string b))) => match lo, hi with
      | none, none => some (True, .c (.d (.v (.string b))), σ, nx)
      | none, some h => match ev h with
        | .c (.d (.v (.int _ h))) => some (0 ≤ h ∧ h ≤ b.size, .c (.d (.v (.string (cutB b 0 h.toNat)))), σ, nx)
        | _ => none
      | some l, none => match ev l with
        | .c (.d (.v (.int _ l))) => some (0 ≤ l ∧ l ≤ b.size, .c (.d (.v (.string ⟨(b.data.toList.drop l.toNat).toArray⟩))), σ, nx)
        | _ => none
      | some l, some h => match ev l, ev h with
        | .c (.d (.v (.int _ l))), .c (.d (.v (.int _ h))) => some (0 ≤ l ∧ l ≤ h ∧ h ≤ b.size, .c (.d (.v (.string (cutB b l.toNat h.toNat)))), σ, nx)
        | _, _ => none
    | _ => none
  | .catS x y => match ev x, ev y with
    | .c (.d (.v (.string a))), .c (.d (.v (.string b))) => some (((a.size + b.size : Nat) : Int) ≤ 9223372036854775807, .c (.d (.v (.string ⟨(a.data.toList ++ b.data.toList).toArray⟩))), σ, nx)
    | _, _ => none
  | .nilI neg x y => match ev x, ev y with
    | .c (.d (.v .nilIface)), .c (.d (.v .nilIface)) => match neg with
      | true => some (True, .c .fls, σ, nx)
      | false => some (True, .c .tru, σ, nx)
    | .c .er, .c (.d (.v .nilIface)) => match neg with
      | true => some (True, .c .tru, σ, nx)
      | false => some (True, .c .fls, σ, nx)
    | _, _ => none
  | .strB x => match ev x with
    | .c (.d (.sl s n f)) => match Nat.beq s 1, Nat.beq n 1 with
      | true, true => match f 0 with
        | [.v (.int .u8 a)] => some (0 ≤ a ∧ a < 256, .c (.d (.v (.string ⟨#[UInt8.ofNat a.toNat]⟩))), σ, nx)
        | _ => none
      | _, _ => none
    | _ => none
  | .arrP s n x => match ev x with
    | .c (.d (.sl s' m f)) => match Nat.beq s s', n with
      | true, k + 1 => some ((k : Int) + 1 ≤ m, .c (.rp (flatD f (k + 1) 0)), σ, nx)
      | _, _ => none
    | _ => none
  | .litP parts => cellsOf ev parts fun cs => some (True, .c (.sb nx cs.length), (nx, .box cs) :: σ, nx + 1)
  | .fld off x => match ev x with
    | .c (.bp id o) => some (True, .c (.bp id (o + off)), σ, nx)
    | .c (.rp row) => some (True, .c (.rp (row.drop off)), σ, nx)
    | .c (.ep id s i j) => some (True, .c (.ep id s i (j + off)), σ, nx)
    | _ => none
  | .idx s x i => match ev x, ev i with
    | .c (.d (.sl s' n f)), .c (.d (.v (.int _ a))) => match Nat.beq s s' with
      | true => some (0 ≤ a ∧ a < n, .c (.rp (f a.toNat)), σ, nx)
      | false => none
    | .c (.ms id n), .c (.d (.v (.int _ a))) => some (0 ≤ a ∧ a < n, .c (.ep id s a.toNat 0), σ, nx)
    | .c (.sb id n), .c (.d (.v (.int _ a))) => match Nat.beq s 1 with
      | true => some (0 ≤ a ∧ a < n, .c (.bp id a.toNat), σ, nx)
      | false => none
    | _, _ => none
  | .idxA s len x i => match ev x, ev i with
    | .c (.bp id o), .c (.d (.v (.int _ a))) => some (0 ≤ a ∧ a < len, .c (.bp id (o + a.toNat * s)), σ, nx)
    | .c (.rp row), .c (.d (.v (.int _ a))) => some (0 ≤ a ∧ a < len, .c (.rp (row.drop (a.toNat * s))), σ, nx)
    | _, _ => none
  | .part agg off n x => match ev x with
    | .agg cs => match agg with
      | true => tkc n (cs.drop off) fun l => some (True, .agg l, σ, nx)
      | false => match cs.drop off with
        | c :: _ => some (True, .c c, σ, nx)
        | [] => none
    | _ => none
  | .index agg s len x i => match ev x, ev i with
    | .agg cs, .c (.d (.v (.int _ a))) => match agg with
      | true => tkc s (cs.drop (a.toNat * s)) fun l => some (0 ≤ a ∧ a < len, .agg l, σ, nx)
      | false => match cs.drop (a.toNat * s) with
        | c :: _ => some (0 ≤ a ∧ a < len, .c c, σ, nx)
        | [] => none
    | _, _ => none
  | .indexS x i => match ev x, ev i with
    | .c (.d (.v (.string b))), .c (.d (.v (.int _ a))) => some (0 ≤ a ∧ a < b.size, vi .u8 (b.data.toList.getD a.toNat 0).toNat, σ, nx)
    | _, _ => none
  | .ext x i => match ev x with
    | .tup vs => match vs.drop i with
      | .c y :: _ => some (True, .c y, σ, nx)
      | .agg y :: _ => some (True, .agg y, σ, nx)
      | .unk :: _ => some (True, .unk, σ, nx)
      | _ => none
    | _ => none
  | .len x => match ev x with
    | .c (.d (.sl _ n _)) => some (True, vi .i64 n, σ, nx)
    | .c (.ms _ n) => some (True, vi .i64 n, σ, nx)
    | .c (.d (.v (.slice none 0 0))) => some (True, vi .i64 0, σ, nx)
    | .c .z => some (True, vi .i64 0, σ, nx)
    | .c (.cl _ n _) => some (True, vi .i64 n, σ, nx)
    | .c (.sb _ n) => some (True, vi .i64 n, σ, nx)
    | _ => none
  | .lenS x => match ev x with
    | .c (.d (.v (.string b))) => some (True, vi .i64 b.size, σ, nx)
    | _ => none
  | .append own e s bytes x y => match own, ev x, ev y with
    | true, .c (.ms id n), .c (.d (.sl s2 m g)) => match get σ id with
      | some (.row e' s' n' f false) => match Nat.beq e e', Nat.beq s s', Nat.beq s s2 with
        | true, true, true => frs (del σ id) fun σ' => some (n = n' ∧ (n + m) * bytes ≤ 140737488355328, .c (.ms nx (n + m)), (nx, .row e s (n + m) (fun i => if i < n then f i else g (i - n)) false) :: σ', nx + 1)
        | _, _, _ => none
      | _ => none
    | true, .c (.d (.v (.slice none 0 0))), .c (.d (.sl s2 m g)) => match Nat.beq s s2 with
      | true => some (m * bytes ≤ 140737488355328, .c (.ms nx m), (nx, .row e s m g false) :: σ, nx + 1)
      | false => none
    | true, .c .z, .c (.d (.sl s2 m g)) => match Nat.beq s s2 with
      | true => some (0 < m ∧ m * bytes ≤ 140737488355328, .c (.ms nx m), (nx, .row e s m g false) :: σ, nx + 1)
      | false => match Nat.beq s2 0 with
        | true => some (m = 0, .c .z, σ, nx)
        | false => none
    | false, .c (.d (.v (.slice none 0 0))), .c (.d (.sl s2 m g)) => match Nat.beq s s2 with
      | true => some (m * bytes ≤ 140737488355328, .c (.d (.sl s m g)), σ, nx)
      | false => none
    | false, .c .z, .c (.d (.sl s2 m g)) => match Nat.beq s s2 with
      | true => some (m * bytes ≤ 140737488355328, .c (.d (.sl s m g)), σ, nx)
      | false => none
    | false, .c .z, .c (.ms id m) => match get σ id with
      | some (.row _ s2 m' g _) => match Nat.beq s s2 with
        | true => some (m ≤ m' ∧ m * bytes ≤ 140737488355328, .c (.d (.sl s m g)), σ, nx)
        | false => none
      | _ => none
    | false, .c (.cl s1 n f), .c (.d (.sl s2 m g)) => match Nat.beq s s1, Nat.beq s s2 with
      | true, true => some (0 < m ∧ (n + m) * bytes ≤ 140737488355328, .c (.d (.sl s (n + m) fun i => if i < n then f i else g (i - n))), σ, nx)
      | _, _ => none
    | _, _, _ => none
  | .mm isMax xs => match xs with
    | x :: xs => match ev x with
      | .c (.d (.v (.int k a))) => match mmx isMax ev k xs a with
        | some v => some (True, v, σ, nx)
        | none => none
      | _ => none
    | [] => none
  | .toF x => match ev x with
    | .c (.d (.v (.int _ n))) => some (E53 n, .c (.fl n), σ, nx)
    | _ => none
  | .toI x => match ev x with
    | .c (.fl n) => some (R64 n, vi .i64 n, σ, nx)
    | _ => none
  | .cplx x y => match ev x, ev y with
    | .c (.fl a), .c (.fl b) => some (True, .c (.cx a b), σ, nx)
    | _, _ => none
  | .cbin op x y => match ev x, ev y with
    | .c (.cx a b), .c (.cx c d) => match op with
      | .add => some (E53 (a + c) ∧ E53 (b + d), .c (.cx (a + c) (b + d)), σ, nx)
      | .mul => some ((E53 (a * c) ∧ E53 (b * d) ∧ E53 (a * d) ∧ E53 (b * c)) ∧ E53 (a * c - b * d) ∧ E53 (a * d + b * c), .c (.cx (a * c - b * d) (a * d + b * c)), σ, nx)
      | _ => none
    | _, _ => none
  | .reC x => match ev x with
    | .c (.cx a _) => some (True, .c (.fl a), σ, nx)
    | _ => none
  | .imC x => match ev x with
    | .c (.cx _ b) => some (True, .c (.fl b), σ, nx)
    | _ => none
  | .mkmap m => some (True, .c (.mp nx), (nx, .mp m []) :: σ, nx + 1)
  | .mset m a k x => match ev a, ev k with
    | .c (.mp id), .c (.d (.v (.int .i64 n))) => match get σ id with
      | some (.mp m' es) => match Nat.beq m m' with
        | true => match mval m (ev x) with
          | some z => frs (set σ id (.mp m (mput es n z))) fun σ' => some (True, .unk, σ', nx)
          | none => none
        | false => none
      | _ => none
    | _, _ => none
  | .mget m ok a k => match ev a, ev k with
    | .c (.mp id), .c (.d (.v (.int .i64 n))) => match get σ id with
      | some (.mp m' es) => match Nat.beq m m' with
        | true => match mgv m ok (mlook es n) with
          | some v => some (True, v, σ, nx)
          | none => none
        | false => none
      | _ => none
    | _, _ => none
  | .lenM a => match ev a with
    | .c (.mp id) => match get σ id with
      | some (.mp _ es) => some (True, vi .i64 es.length, σ, nx)
      | _ => none
    | _ => none
  | .isnil neg x => match ev x with
    | .c (.d (.v (.slice none 0 0))) => match neg with
      | true => some (True, .c .fls, σ, nx)
      | false => some (True, .c .tru, σ, nx)
    | .c (.d (.sl _ n _)) => match neg with
      | true => some (0 < n, .c .tru, σ, nx)
      | false => some (0 < n, .c .fls, σ, nx)
    | .c (.ms _ n) => match neg with
      | true => some (0 < n, .c .tru, σ, nx)
      | false => some (0 < n, .c .fls, σ, nx)
    | _ => none
  | .call _ _ => none
  | .bad => none
def evoC : Value → V
  | .bool true => .c .tru
  | .bool false => .c .fls
  | .agg xs => if xs.toList.all one then .agg (xs.toList.map fun x => .d (.v x)) else .unk
  | .tuple _ => .unk
  | .complex .f64 0 0 => .c (.cx 0 0)
  | v => .c (.d (.v v))
def evo (env : List (Nat × V)) : Operand → V
  | .tmp t => lk env t
  | .const v => evoC v
  | .func f => .c (.fn f [])
  | .global _ => .unk
def zeroOf (P : Program) (t : TypeId) : Option (List Value) :=
  match P.info? t with
  | some i => match i.zero with
    | some z => if z.cells.toList.all one && z.cells.size == i.size then some z.cells.toList else none
    | none => none
  | none => none
def aggT (P : Program) (t : TypeId) : Option Bool :=
  match P.underlying t with
  | some (.struct _) => some true
  | some (.array _ _) => some true
  | some _ => some false
  | none => none
def sizeT (P : Program) (t : TypeId) : Option Nat := (P.info? t).map (·.size)
def bytesT (P : Program) (t : TypeId) : Option Nat := (P.info? t).map (·.bytes)
def flatFs (f : TypeId → Option (List Bool)) : List Field → Nat → Option (List Bool)
  | [], _ => some []
  | g :: fs, i => if g.name != "_" && g.offset == i then do
      let ks ← f g.type
      let rest ← flatFs f fs (i + ks.length)
      some (ks ++ rest)
    else none
def rep {α : Type} : Nat → List α → List α
  | 0, _ => []
  | n + 1, l => l ++ rep n l
def flatT (P : Program) : Nat → TypeId → Option (List Bool)
  | 0, _ => none
  | m + 1, t => match P.underlying t, sizeT P t with
    | some (.int _), some n => if n = 1 then some [false] else none
    | some .bool, some n => if n = 1 then some [true] else none
    | some (.struct fs), some n => do
      let ks ← flatFs (flatT P m) fs.toList 0
      if ks.length = n ∧ P.stoodInHeld t = false then some ks else none
    | some (.array k e), some n => do
      let ks ← flatT P m e
      if n = k * ks.length then some (rep k ks) else none
    | _, _ => none
def lowParts (P : Program) (fs : Array Field) : List (Nat × Operand) → Option (List (Nat × Nat × Operand))
  | [] => some []
  | (i, x) :: ps => do
    let f ← fs[i]?
    let n ← sizeT P f.type
    let r ← lowParts P fs ps
    some ((f.offset, n, x) :: r)
def inOrder : List (Nat × Operand) → Nat → Option (List Operand)
  | [], _ => some []
  | (i, x) :: ps, k => if i = k then (inOrder ps (k + 1)).map (x :: ·) else none
def mkind (P : Program) (e : TypeId) : Option Nat :=
  match P.underlying e with
  | some (.struct fs) => if fs.size = 0 then some 0 else none
  | some (.int .i64) => some 1
  | some .bool => some 2
  | _ => none
def zkind (P : Program) (e : TypeId) : Option Nat :=
  match P.info? e with
  | some i => match i.zero with
    | some (.int .i64 n) => if n = 0 then some 1 else none
    | some (.bool false) => some 2
    | _ => none
  | none => none
def lowOp' (P : Program) (own : Bool) (o : Oper) : Option LOp :=
  match o.op with
  | .move x => some (.mv x)
  | .assign x => some (.mv x)
  | .nilCheck x => some (.nilc x)
  | .pick c a b => some (.pick c a b)
  | .alloc e => (zeroOf P e).map .alloc
  | .box _ x => some (if own then .boxS x else .box x)
  | .build t parts => do
    let z ← zeroOf P t
    match P.underlying t with
    | some (.struct fs) => if fs.toList.all fun f => (sizeT P f.type).isSome then (lowParts P fs parts.toList).map (.build z) else none
    | some (.array _ e) => do
      let n ← sizeT P e
      some (.build z (parts.toList.map fun (i, x) => (i * n, n, x)))
    | _ => none
  | .buildSlice t len parts => match P.underlying t with
    | some (.slice e) => do
      let s ← sizeT P e
      let z ← zeroOf P e
      let xs ← inOrder parts.toList 0
      if xs.length = len ∧ len * s ≤ 16777216 ∧ 0 < s ∧ z.length = s then (match P.underlying e with
        | some (.pointer _) => if s = 1 then some (.litP xs) else none
        | _ => some (.lit own e s xs)) else none
    | _ => none
  | .load t a => do
    let g ← aggT P t
    let n ← sizeT P t
    if g || n == 1 then some (.load g n a) else none
  | .store t a x => (sizeT P t).map fun n => .store n a x
  | .binOp op t x y _ => match P.underlying t with
    | some (.int _) => some (if own then .binW op x y else .bin op x y)
    | some .bool => (match op with | .eql => some (.eqB false x y) | .neq => some (.eqB true x y) | _ => none)
    | some .string => (match op with | .eql => some (.eqS false x y) | .neq => some (.eqS true x y) | .add => some (.catS x y) | _ => none)
    | some (.interface _) => (match op, y with | .eql, .const .nilIface => some (.nilI false x (.const .nilIface)) | .neq, .const .nilIface => some (.nilI true x (.const .nilIface)) | _, _ => none)
    | some (.complex _) => (match op with | .add => some (.cbin .add x y) | .mul => some (.cbin .mul x y) | _ => none)
    | some (.slice _) => (match op, y with | .eql, .const (.slice none 0 0) => some (.isnil false x) | .neq, .const (.slice none 0 0) => some (.isnil true x) | _, _ => none)
    | some (.struct _) => do
      let ks ← flatT P 8 t
      if P.eqGuardType P.depth t = false then (match op with | .eql => some (.eqA false ks x y) | .neq => some (.eqA true ks x y) | _ => none) else none
    | some (.array _ _) => do
      let ks ← flatT P 8 t
      if P.eqGuardType P.depth t = false then (match op with | .eql => some (.eqA false ks x y) | .neq => some (.eqA true ks x y) | _ => none) else none
    | _ => none
  | .unOp op _ x => some (.un op x)
  | .convert src dst x => match P.underlying src, P.underlying dst with
    | some (.int _), some (.int k) => some (.conv k x)
    | some (.int _), some (.float .f64) => some (.toF x)
    | some (.float .f64), some (.int .i64) => some (.toI x)
    | some (.slice e), some .string => (match P.underlying e with | some (.int .u8) => some (.strB x) | _ => none)
    | _, _ => none
  | .makeFunc (.func f) first caps => if first.isEmpty then some (.mkfn f caps.toList) else (match first.toList, caps.toList with | [x], [] => some (.mkfnB f x) | _, _ => none)
  | .makeMap t none => match P.underlying t with
    | some (.map _ e) => (mkind P e).map .mkmap
    | _ => none
  | .mapUpdate t m k x => match P.underlying t with
    | some (.map ky e) => match P.underlying ky with
      | some (.int .i64) => (mkind P e).map fun n => .mset n m k x
      | _ => none
    | _ => none
  | .lookup t m k ok => match P.underlying t with
    | some (.map ky e) => match P.underlying ky with
      | some (.int .i64) => (zkind P e).map fun n => .mget n ok m k
      | _ => none
    | _ => none
  | .makeSlice t l c => match P.underlying t with
    | some (.slice e) => do
      let s ← sizeT P e
      let b ← bytesT P e
      let z ← zeroOf P e
      match l, c with
      | .tmp a, .tmp b' => if a = b' ∧ 0 < s ∧ 0 < b ∧ z.length = s then some (.make own e s b z (.tmp a)) else none
      | .const (.int k a), .const (.int k' b') => if a = b' ∧ k = k' ∧ 0 < s ∧ 0 < b ∧ z.length = s then some (.make own e s b z (.const (.int k a))) else none
      | _, _ => none
    | _ => none
  | .slice t x lo hi none => match P.underlying t with
    | some (.slice e) => (sizeT P e).map fun s => .slc s x lo hi
    | some .string => some (.slcS x lo hi)
    | _ => none
  | .slice t x none (some h) (some m) => match P.underlying t with
    | some (.slice e) => (sizeT P e).map fun s => .clip s x h m
    | _ => none
  | .slice t x (some l) (some h) (some m) => match P.underlying t with
    | some (.slice e) => (sizeT P e).map fun s => .slc3 s x l h m
    | _ => none
  | .fieldAddr t x f => match P.underlying t with
    | some (.struct fs) => do
      let fd ← fs[f]?
      let n ← sizeT P fd.type
      if n = 0 then none else some (.fld fd.offset x)
    | _ => none
  | .indexAddr t x i => match P.underlying t with
    | some (.slice e) => (sizeT P e).map fun s => .idx s x i
    | some (.array n e) => (sizeT P e).map fun s => .idxA s n x i
    | _ => none
  | .field t x f => match P.underlying t with
    | some (.struct fs) => do
      let fd ← fs[f]?
      let g ← aggT P fd.type
      let n ← sizeT P fd.type
      some (.part g fd.offset n x)
    | _ => none
  | .index t x i => match P.underlying t with
    | some (.array n e) => do
      let g ← aggT P e
      let s ← sizeT P e
      some (.index g s n x i)
    | some .string => some (.indexS x i)
    | _ => none
  | .sliceToArrayPointer t x => match P.underlying t with
    | some (.array n e) => (sizeT P e).map fun s => .arrP s n x
    | _ => none
  | .extract x i => some (.ext x i)
  | .call c => match c.callee with
    | .value f => some (.call f c.args.toList)
    | .builtin .len => match c.args.toList, c.argTypes.toList with
      | [x], [t] => match P.underlying t with
        | some (.slice _) => some (.len x)
        | some .string => some (.lenS x)
        | some (.map _ _) => some (.lenM x)
        | _ => none
      | _, _ => none
    | .builtin .append => match c.args.toList, c.argTypes.toList with
      | [x, y], [t, t'] => if t = t' then (match P.underlying t with
        | some (.slice e) => do
          let s ← sizeT P e
          let b ← bytesT P e
          let z ← zeroOf P e
          if 0 < s ∧ 0 < b ∧ z.length = s then some (.append own e s b x y) else none
        | _ => none) else (match P.underlying t, P.underlying t' with
        | some (.slice e), some (.int .i64) => do
          let s ← sizeT P e
          let b ← bytesT P e
          let z ← zeroOf P e
          if 0 < s ∧ 0 < b ∧ z.length = s then some (.appendN e s b z x y) else none
        | _, _ => none)
      | _, _ => none
    | .builtin .cap => (match c.args.toList, c.argTypes.toList with
      | [x], [t] => (match P.underlying t with
        | some (.slice _) => some (.cap x)
        | _ => none)
      | _, _ => none)
    | .builtin .complex => (match c.args.toList with | [x, y] => some (.cplx x y) | _ => none)
    | .builtin .real => (match c.args.toList with | [x] => some (.reC x) | _ => none)
    | .builtin .imag => (match c.args.toList with | [x] => some (.imC x) | _ => none)
    | .builtin .min => some (.mm false c.args.toList)
    | .builtin .max => some (.mm true c.args.toList)
    | _ => none
  | _ => none
def callOf (o : Oper) : Option (Operand × List Operand) :=
  match o.op with
  | .call c => match c.callee with
    | .value f => some (f, c.args.toList)
    | _ => none
  | _ => none
def setCall (o : Oper) : LOp → LOp
  | .call _ _ => match callOf o with
    | some (f, xs) => .call f xs
    | none => .bad
  | l => l
def lowOp (P : Program) (own : Bool) (o : Oper) : LOp := setCall o ((lowOp' P own o).getD .bad)
theorem low_call {P : Program} {own : Bool} {o : Oper} {f : Operand} {xs : List Operand} (h : lowOp P own o = .call f xs) : ∃ c, o.op = .call c ∧ c.callee = .value f ∧ c.args.toList = xs := by
  unfold lowOp setCall at h
  split at h
  · split at h
    · rename_i f' xs' hc
      cases h
      unfold callOf at hc
      split at hc
      · rename_i c hop
        split at hc
        · rename_i hcal; cases hc; exact ⟨c, hop, hcal, rfl⟩
        · cases hc
      · cases hc
    · cases h
  · rename_i l hl
    exact absurd h (hl f xs)
theorem low_xop {P : Program} {own : Bool} {o : Oper} {ev : Operand → V} {σ : Store} {nx : Nat} {r : Res} (h : xop ev σ nx (lowOp P own o) = some r) : xop ev σ nx ((lowOp' P own o).getD .bad) = some r := by
  unfold lowOp setCall at h
  split at h
  · split at h <;> simp [xop] at h
  · exact h
inductive LCode where
  | skip
  | region (ops : List LIns)
  | regionD (ops : List LIns) (ms ks : List Nat)
  | seq (a b : LCode)
  | cond (c : Operand) (a b : LCode)
  | block (id : Nat) (c : LCode)
  | loop (c : LCode)
  | rangeFunc (f : Operand) (params : List Tmp) (assign body : LCode)
  | exit (id : Nat)
  | ret
  | scope (c : LCode)
  | label
  | stop (c : LCode)
def LCode.ranges : LCode → Bool
  | .seq a b => a.ranges || b.ranges
  | .cond _ a b => a.ranges || b.ranges
  | .block _ c => c.ranges
  | .scope c => c.ranges
  | .loop c => c.ranges
  | .rangeFunc .. => true
  | _ => false
def LCode.strip : LCode → LCode
  | .seq a b => .seq a.strip b.strip
  | .cond c a b => .cond c a.strip b.strip
  | .block id c => .block id c.strip
  | .loop c => .loop c.strip
  | .scope c => .scope c.strip
  | .stop c => c.strip
  | c => c
def lowIns (P : Program) (N : Nat) (own : List Nat) (ops : Array Oper) (o : Oper) : Option LIns := do
  let op := lowOp P (match o.dst with | some d => own.contains d | none => false) o
  let g ← match o.guard with
    | none => some none
    | some (j, want) => (((ops[j]?).bind (·.dst)).map fun t => some (t, want))
  if (match o.dst with | some d => decide (d < N) | none => true) then some ⟨o.dst, op, g⟩ else none
def lowList (P : Program) (N : Nat) (own : List Nat) (ops : Array Oper) : List Oper → Option (List LIns)
  | [] => some []
  | o :: os => do
    let i ← lowIns P N own ops o
    let r ← lowList P N own ops os
    some (i :: r)
def rdOperand : Operand → List Nat
  | .tmp t => [t]
  | _ => []
def LOp.opnds : LOp → List Operand
  | .mv x => [x]
  | .nilc x => [x]
  | .pick c a b => [c, a, b]
  | .alloc _ => []
  | .box x => [x]
  | .boxS x => [x]
  | .build _ parts => parts.map (·.2.2)
  | .lit _ _ _ parts => parts
  | .load _ _ a => [a]
  | .store _ a x => [a, x]
  | .bin _ x y => [x, y]
  | .binW _ x y => [x, y]
  | .eqA _ _ x y => [x, y]
  | .eqB _ x y => [x, y]
  | .un _ x => [x]
  | .conv _ x => [x]
  | .mkfn _ caps => caps
  | .mkfnB _ x => [x]
  | .eqS _ x y => [x, y]
  | .make _ _ _ _ _ n => [n]
  | .slc _ x lo hi => x :: (lo.toList ++ hi.toList)
  | .slcS x lo hi => x :: (lo.toList ++ hi.toList)
  | .fld _ x => [x]
  | .idx _ x i => [x, i]
  | .idxA _ _ x i => [x, i]
  | .part _ _ _ x => [x]
  | .index _ _ _ x i => [x, i]
  | .indexS x i => [x, i]
  | .ext x _ => [x]
  | .len x => [x]
  | .lenS x => [x]
  | .toF x => [x]
  | .toI x => [x]
  | .cplx x y => [x, y]
  | .cbin _ x y => [x, y]
  | .reC x => [x]
  | .imC x => [x]
  | .mkmap _ => []
  | .mset _ a k x => [a, k, x]
  | .lenM a => [a]
  | .mget _ _ a k => [a, k]
  | .isnil _ x => [x]
  | .clip _ x h m => [x, h, m]
  | .slc3 _ x l h m => [x, l, h, m]
  | .appendN _ _ _ _ x n => [x, n]
  | .cap x => [x]
  | .catS x y => [x, y]
  | .nilI _ x y => [x, y]
  | .strB x => [x]
  | .arrP _ _ x => [x]
  | .litP parts => parts
  | .append _ _ _ _ x y => [x, y]
  | .mm _ xs => xs
  | .call f args => f :: args
  | .bad => []
def LIns.reads (i : LIns) : List Nat := i.op.opnds.flatMap rdOperand ++ (match i.guard with | some (t, _) => [t] | none => [])
def mkMask (M : List Nat) (o : Oper) : Nat :=
  (o.after.toList.filter fun e => Region.binds .any e).foldl (fun m e => m ||| (1 <<< e.on) ||| M.getD e.on 0) 0
def mkMasks : List Oper → List Nat → List Nat
  | [], M => M
  | o :: os, M => mkMasks os (M ++ [mkMask M o])
def ahead (M : List Nat) (j k : Nat) : Bool := (M.getD k 0).testBit j
def backOk : List Oper → Nat → Bool
  | [], _ => true
  | o :: os, k => (o.after.toList.all fun e => !Region.binds .any e || decide (e.on < k)) && backOk os (k + 1)
def ssaPair (p i : LIns) : Bool :=
  (match p.dst with | some d => !(i.reads.contains d) && (i.dst != some d) | none => true) && (match i.dst with | some d => !(p.reads.contains d) | none => true)
def ssaAfter (M : List Nat) (j : Nat) (p : LIns) : Nat → List LIns → Bool
  | _, [] => true
  | k, i :: is => (ahead M j k || ssaPair p i) && ssaAfter M j p (k + 1) is
def ssaAll (M : List Nat) : Nat → List LIns → Bool
  | _, [] => true
  | j, p :: ps => ssaAfter M j p (j + 1) ps && ssaAll M (j + 1) ps
def lowCode (P : Program) (N : Nat) (own : List Nat) : Code → Option LCode
  | .skip => some .skip
  | .region _ ops draw => do
    let l ← lowList P N own ops ops.toList
    if draw then
      let M := mkMasks ops.toList []
      if backOk ops.toList 0 && ssaAll M 0 l then some (.regionD l M (List.range ops.size)) else none
    else some (.region l)
  | .seq a b => do
    let x ← lowCode P N own a
    let y ← lowCode P N own b
    some (.seq x y)
  | .cond c a b => do
    let x ← lowCode P N own a
    let y ← lowCode P N own b
    some (.cond c x y)
  | .block id c => (lowCode P N own c).map (.block id)
  | .loop c => (lowCode P N own c).map .loop
  | .rangeFunc f ps a c => do
    let x ← lowCode P N own a
    let y ← lowCode P N own c
    some (.rangeFunc f ps.toList x y)
  | .exit id => some (.exit id)
  | .ret => some .ret
  | .scope c => (lowCode P N own c).map .scope
  | .label _ => some .label
  | _ => none
end Go.Pw
set_option linter.unusedVariables false
namespace Go.Pw
open Go Go.RowKit
section
variable {P : Program} {base : Nat} {Γ : Cx} {w : World} {σ : Store} {id : Nat}
def Gives (base : Nat) (Γ : Cx) (w : World) (σ : Store) (id : Nat) (v : V) (σ' : Store) (nx' : Nat) (r : Result Next) : Prop :=
  ∃ u w' Γ', (r = .ok (.value u) w' ∨ (r = .ok .skip w' ∧ u = undef)) ∧ RepV Γ' w' v u ∧ StoreOk Γ' w' σ' ∧ CxLe Γ Γ' ∧ Ext base Γ w σ Γ' w' σ' ∧
    (∀ i, i ≠ id → Γ'.ρ i = Γ.ρ i) ∧ ((nx' = id ∧ Γ'.ρ id = Γ.ρ id) ∨ nx' = id + 1)
theorem Gives.same {v : V} {r : Result Next} {u : Value} (h : StoreOk Γ w σ) (hr : r = .ok (.value u) w) (hv : RepV Γ w v u) : Gives base Γ w σ id v σ id r :=
  ⟨u, w, Γ, .inl hr, hv, h, CxLe.refl _, Ext.refl _ _ _ _, fun _ _ => rfl, .inl ⟨rfl, rfl⟩⟩
theorem repD_one {I : Nat → Prop} {d : D} {u : Value} (h : RepD I w d u) : one u = true := by
  cases h with
  | v x h => exact h
  | slE s f A c => rfl
  | sl => rfl
theorem repC_one {c : C} {u : Value} (h : RepC Γ w c u) : one u = true := by
  cases c with
  | d x => exact repD_one h
  | tru => obtain rfl : u = _ := h; rfl
  | fls => obtain rfl : u = _ := h; rfl
  | z => obtain ⟨A, rfl⟩ := h; rfl
  | rp row => obtain ⟨ad, rfl, _⟩ := h; rfl
  | fn f ids => obtain ⟨bs, _, _, rfl⟩ := h; rfl
  | bp id off => obtain ⟨b, _, rfl⟩ := h; rfl
  | yd id => obtain ⟨b, _, rfl⟩ := h; rfl
  | fl n => obtain ⟨b, rfl, _⟩ := h; rfl
  | cx m n => obtain ⟨a, b, rfl, _⟩ := h; rfl
  | mp id => obtain ⟨b, _, rfl⟩ := h; rfl
  | cl s n f => exact repD_one h.2
  | fnR f rows => obtain ⟨us, _, _, rfl⟩ := h; rfl
  | fnB f ds => obtain ⟨us, _, _, rfl⟩ := h; rfl
  | er => obtain ⟨t, p, rfl⟩ := h; rfl
  | sb id n => obtain ⟨b, _, rfl⟩ := h; rfl
  | ep id s i j => obtain ⟨b, _, rfl⟩ := h; rfl
  | ms id n =>
    obtain ⟨b, _, h⟩ := h
    rcases h with ⟨_, _, rfl⟩ | ⟨c, _, rfl⟩ <;> rfl
theorem one_cells {u : Value} (h : one u = true) : u.cells = #[u] := by cases u <;> simp_all [one, Value.cells]
theorem one_oneCell' {u : Value} (h : one u = true) : u.oneCell' = true := by cases u <;> simp_all [one, Value.oneCell']
theorem RepV.cells {v : V} {u : Value} {cs : List C} (h : RepV Γ w v u) (hc : vcells v = some cs) :
    u.cells.size = cs.length ∧ (∀ (i : Nat) (c : C), cs[i]? = some c → ∃ x, u.cells[i]? = some x ∧ RepC Γ w c x) ∧ ∀ x ∈ u.cells.toList, one x = true := by
  cases h with
  | c x u h =>
    simp only [vcells, Option.some.injEq] at hc
    subst hc
    have h1 := repC_one h
    rw [one_cells h1]
    refine ⟨rfl, fun i c hc => ?_, fun x hx => ?_⟩
    · cases i with
      | zero => simp at hc; subst hc; exact ⟨u, rfl, h⟩
      | succ i => simp at hc
    · simp at hx; subst hx; exact h1
  | agg cs' us hl h =>
    simp only [vcells, Option.some.injEq] at hc
    subst hc
    refine ⟨hl, fun i c hc => ?_, fun x hx => ?_⟩
    · have hi : i < us.size := by rw [hl]; exact (List.getElem?_eq_some_iff.1 hc).1
      exact ⟨us[i], by simp [Value.cells, hi], h i c _ hc (by simp [hi])⟩
    · obtain ⟨i, hi, rfl⟩ := List.mem_iff_getElem.1 hx
      have hi' : i < us.size := by simpa [Value.cells] using hi
      have hlt : i < cs'.length := by rw [← hl]; exact hi'
      exact repC_one (h i cs'[i] _ (List.getElem?_eq_getElem hlt) (by simp [Value.cells, hi']))
  | tup => simp [vcells] at hc
  | unk => simp [vcells] at hc
theorem run_isAgg {t : TypeId} {g : Bool} (h : aggT P t = some g) : (isAgg t).run P w = .ok g w := by
  unfold aggT at h
  unfold isAgg
  split at h
  · rename_i f hu; simp only [Option.some.injEq] at h; subst h; simp [run_underlying hu]
  · rename_i f hu; simp only [Option.some.injEq] at h; subst h; simp [run_underlying hu]
  · rename_i d h1 h2 hu
    simp only [Option.some.injEq] at h; subst h
    simp only [Sem.run_bind, run_underlying hu, Result.andThen_ok]
    rfl
  · cases h
theorem run_typeInfo' {t : TypeId} {i : TypeInfo} (h : P.info? t = some i) : (typeInfo t).run P w = .ok i w := by simp [typeInfo, h]
theorem run_sizeT {t : TypeId} {n : Nat} (h : sizeT P t = some n) : (sizeOf t).run P w = .ok n w := by
  unfold sizeT at h
  obtain ⟨i, hi, rfl⟩ := Option.map_eq_some_iff.1 h
  simp [sizeOf, run_typeInfo' hi]
theorem zeroOf_spec {t : TypeId} {z : List Value} (h : zeroOf P t = some z) :
    ∃ i zv, P.info? t = some i ∧ i.zero = some zv ∧ zv.cells.toList = z ∧ (∀ x ∈ z, one x = true) ∧ i.size = z.length := by
  unfold zeroOf at h
  split at h
  · rename_i i hi
    split at h
    · rename_i zv hz
      split at h
      · rename_i hc
        simp only [Bool.and_eq_true, List.all_eq_true, beq_iff_eq] at hc
        simp only [Option.some.injEq] at h
        subst h
        exact ⟨i, zv, hi, hz, rfl, hc.1, by rw [← hc.2]; simp⟩
      · cases h
    · cases h
  · cases h
theorem run_zeroValue' {t : TypeId} {i : TypeInfo} {zv : Value} (hi : P.info? t = some i) (hz : i.zero = some zv) : (zeroValue t).run P w = .ok zv w := by
  simp [zeroValue, run_typeInfo' hi, hz]
theorem cell_at {b off : Nat} {xs : Array Value} {t : TypeId} {fr : Nat × Nat} (h : w.heap[b]? = some (.cells xs t fr)) (j : Nat) : w.cell? ((⟨b, off, none⟩ : Addr).add j) = xs[off + j]? := by
  rw [Addr.add_lit]; exact cell_of_row w b (off + j) xs t fr h
theorem add_zero (a : Addr) : a.add 0 = a := by simp [Addr.add]
theorem run_loadVar_cells {t : TypeId} {g : Bool} {a : Addr} {xs : List Value} (hg : aggT P t = some g) (hn : sizeT P t = some xs.length) (hx : ∀ (j : Nat) u, xs[j]? = some u → w.cell? (a.add j) = some u)
    (h1 : g = false → xs ≠ []) : (loadVar t a).run P w = .ok (if g then .agg xs.toArray else xs.headD undef) w := by
  unfold loadVar
  simp only [Sem.run_bind, run_isAgg hg, Result.andThen_ok]
  cases g with
  | true =>
    simp only [if_true, Sem.run_bind, run_sizeT hn, Result.andThen_ok, run_loadCells_list w a xs hx, Sem.run_pure]
  | false =>
    cases xs with
    | nil => exact absurd rfl (h1 rfl)
    | cons x xs =>
      have := hx 0 x rfl
      rw [add_zero] at this
      simp [this]
end
section
variable {P : Program} {base : Nat} {Γ : Cx} {w : World} {σ : Store} {id : Nat}
theorem values_of {cs : List C} {g : Nat → Option Value} (h : ∀ (j : Nat) (c : C), cs[j]? = some c → ∃ x, g j = some x ∧ RepC Γ w c x) :
    ∃ xs : List Value, xs.length = cs.length ∧ (∀ (j : Nat) u, xs[j]? = some u → g j = some u) ∧ ∀ (j : Nat) c u, cs[j]? = some c → xs[j]? = some u → RepC Γ w c u := by
  induction cs generalizing g with
  | nil => exact ⟨[], rfl, by simp, by simp⟩
  | cons c cs ih =>
    obtain ⟨x, hx, hr⟩ := h 0 c rfl
    obtain ⟨xs, hl, hg, hR⟩ := ih (g := fun j => g (j + 1)) (fun j c hc => h (j + 1) c (by simpa using hc))
    refine ⟨x :: xs, by simp [hl], fun j u hu => ?_, fun j c' u hc hu => ?_⟩
    · cases j with
      | zero => simp at hu; subst hu; exact hx
      | succ j => exact hg j u (by simpa using hu)
    · cases j with
      | zero => simp at hc hu; subst hc; subst hu; exact hr
      | succ j => exact hR j c' u (by simpa using hc) (by simpa using hu)
theorem load_ok {t : TypeId} {g : Bool} {n : Nat} {a : Addr} {cs : List C} {o : Oper} {ρ : Operand → Value} {x : Operand} (ho : o.op = .load t x) (hx : ρ x = .pointer (some a))
    (hg : aggT P t = some g) (hn : sizeT P t = some n) (hst : StoreOk Γ w σ)
    (hc : ∀ (j : Nat) (c : C), cs[j]? = some c → ∃ u, w.cell? (a.add j) = some u ∧ RepC Γ w c u) {v : V}
    (hv : (g = true ∧ n ≤ cs.length ∧ v = .agg (cs.take n)) ∨ (g = false ∧ ∃ c rest, cs = c :: rest ∧ v = .c c ∧ n = 1)) : Gives base Γ w σ id v σ id ((execOp ρ o).run P w) := by
  rcases hv with ⟨rfl, hl, rfl⟩ | ⟨rfl, c, rest, rfl, rfl, hn1⟩
  · obtain ⟨xs, hxl, hxg, hxr⟩ := values_of (Γ := Γ) (w := w) (cs := cs.take n) (g := fun j => w.cell? (a.add j)) (fun j c hj => hc j c (by
      rw [List.getElem?_take] at hj; split at hj
      · exact hj
      · cases hj))
    have hxl' : xs.length = n := by rw [hxl]; simp; omega
    have hrun := run_loadVar_cells (P := P) (w := w) (t := t) (a := a) (xs := xs) hg (by rw [hxl']; exact hn) hxg (by simp)
    refine Gives.same hst (u := .agg xs.toArray) ?_ (.agg _ _ (by simp [hxl]) (fun i c u h1 h2 => hxr i c u h1 (by simpa using h2)))
    simp only [execOp, ho, Sem.run_bind, Instr.loadAt, hx, Instr.sureAddr, Sem.run_pure, Result.andThen_ok, hrun, if_true]
  · obtain ⟨u, hu, hr⟩ := hc 0 c rfl
    subst hn1
    have hrun := run_loadVar_cells (P := P) (w := w) (t := t) (a := a) (xs := [u]) hg hn (fun j u' hj => by
      cases j with
      | zero => simp at hj; subst hj; exact hu
      | succ j => simp at hj) (by simp)
    refine Gives.same hst (u := u) ?_ (.c _ _ hr)
    simp only [execOp, ho, Sem.run_bind, Instr.loadAt, hx, Instr.sureAddr, Sem.run_pure, Result.andThen_ok, hrun]
    rfl
end
end Go.Pw
set_option linter.unusedVariables false
namespace Go.Pw
open Go Go.RowKit
section
variable {P : Program} {base : Nat} {Γ : Cx} {w : World} {σ σ' : Store} {id nx' : Nat} {o : Oper} {ρ : Operand → Value} {ev : Operand → V} {ob : Prop} {v : V}
theorem RepV.int {k : IntKind} {n : Int} {u : Value} (h : RepV Γ w (vi k n) u) : u = .int k n := by
  cases h with | c x u h => cases h; rfl
theorem RepV.str {b : ByteArray} {u : Value} (h : RepV Γ w (.c (.d (.v (.string b)))) u) : u = .string b := by
  cases h with | c x u h => cases h; rfl
theorem RepV.bool {b : Bool} {u : Value} (h : RepV Γ w (vbl b) u) : u = .bool b := by
  cases h with | c x u h => cases h; rfl
theorem RepV.tru {u : Value} (h : RepV Γ w (.c .tru) u) : u = .bool true := by
  cases h with | c x u h => exact h
theorem RepV.fls {u : Value} (h : RepV Γ w (.c .fls) u) : u = .bool false := by
  cases h with | c x u h => exact h
theorem rep_exact {x : Value} (h : one x = true) : RepV Γ w (.c (.d (.v x))) x := .c _ _ (.v _ h)
theorem rep_int (k : IntKind) (n : Int) : RepV Γ w (vi k n) (.int k n) := rep_exact rfl
theorem rep_bool (b : Bool) : RepV Γ w (vbl b) (.bool b) := rep_exact rfl
theorem op_mv {x : Operand} (ho : o.op = .move x ∨ o.op = .assign x) (hev : ∀ x, RepV Γ w (ev x) (ρ x)) (hst : StoreOk Γ w σ) (hx : xop ev σ id (.mv x) = some (ob, v, σ', nx')) :
    Gives base Γ w σ id v σ' nx' ((execOp ρ o).run P w) := by
  have key : ob = True ∧ v = ev x ∧ σ' = σ ∧ nx' = id := by
    simp only [xop] at hx
    cases hv : ev x <;> rw [hv] at hx <;> simp only [Option.some.injEq, Prod.mk.injEq] at hx <;> (obtain ⟨h1, h2, h3, h4⟩ := hx; exact ⟨h1.symm, h2.symm, h3.symm, h4.symm⟩)
  obtain ⟨_, rfl, rfl, rfl⟩ := key
  refine Gives.same hst (u := ρ x) ?_ (hev x)
  rcases ho with ho | ho <;> simp [execOp, ho]
theorem op_nilc {x : Operand} (ho : o.op = .nilCheck x) (hev : ∀ x, RepV Γ w (ev x) (ρ x)) (hst : StoreOk Γ w σ) (hx : xop ev σ id (.nilc x) = some (ob, v, σ', nx')) :
    Gives base Γ w σ id v σ' nx' ((execOp ρ o).run P w) := by
  have hr := hev x
  simp only [xop] at hx
  split at hx
  · rename_i f l hv
    simp only [Option.some.injEq, Prod.mk.injEq] at hx
    obtain ⟨_, rfl, rfl, rfl⟩ := hx
    rw [hv] at hr
    refine Gives.same hst (u := ρ x) ?_ hr
    cases hr with | c _ _ h => obtain ⟨bs, _, _, hu⟩ := h; simp [execOp, ho, hu]
  · rename_i i off hv
    simp only [Option.some.injEq, Prod.mk.injEq] at hx
    obtain ⟨_, rfl, rfl, rfl⟩ := hx
    rw [hv] at hr
    refine Gives.same hst (u := ρ x) ?_ hr
    cases hr with | c _ _ h => obtain ⟨b, _, hu⟩ := h; simp [execOp, ho, hu, ptr]
  · rename_i row hv
    simp only [Option.some.injEq, Prod.mk.injEq] at hx
    obtain ⟨_, rfl, rfl, rfl⟩ := hx
    rw [hv] at hr
    refine Gives.same hst (u := ρ x) ?_ hr
    cases hr with | c _ _ h => obtain ⟨ad, hu, _⟩ := h; simp [execOp, ho, hu]
  · rename_i i hv
    simp only [Option.some.injEq, Prod.mk.injEq] at hx
    obtain ⟨_, rfl, rfl, rfl⟩ := hx
    rw [hv] at hr
    refine Gives.same hst (u := ρ x) ?_ hr
    cases hr with | c _ _ h => obtain ⟨b, _, hu⟩ := h; simp [execOp, ho, hu]
  · cases hx
theorem op_pick {c a b : Operand} (ho : o.op = .pick c a b) (hev : ∀ x, RepV Γ w (ev x) (ρ x)) (hst : StoreOk Γ w σ) (hx : xop ev σ id (.pick c a b) = some (ob, v, σ', nx')) :
    Gives base Γ w σ id v σ' nx' ((execOp ρ o).run P w) := by
  have hc := hev c
  simp only [xop] at hx
  split at hx
  · rename_i hv
    rw [hv] at hc
    split at hx
    · rename_i y hy
      simp only [Option.some.injEq, Prod.mk.injEq] at hx
      obtain ⟨_, rfl, rfl, rfl⟩ := hx
      refine Gives.same hst (u := ρ a) ?_ (hy ▸ hev a)
      simp [execOp, ho, hc.tru, asBool]
    · cases hx
  · rename_i hv
    rw [hv] at hc
    split at hx
    · rename_i y hy
      simp only [Option.some.injEq, Prod.mk.injEq] at hx
      obtain ⟨_, rfl, rfl, rfl⟩ := hx
      refine Gives.same hst (u := ρ b) ?_ (hy ▸ hev b)
      simp [execOp, ho, hc.fls, asBool]
    · cases hx
  · cases hx
theorem zeros_eq {R : Type} : ∀ (l : List Value) (k : List C → Option R), zeros l k = k (l.map fun x => .d (.v x))
  | [], _ => rfl
  | x :: l, k => by simp [zeros, zeros_eq l]
theorem op_alloc {e : TypeId} {z : List Value} (ho : o.op = .alloc e) (hz : zeroOf P e = some z) (hst : StoreOk Γ w σ) (hid : Γ.ρ id = none) (hbase : base ≤ id)
    (hx : xop ev σ id (.alloc z) = some (ob, v, σ', nx')) : Gives base Γ w σ id v σ' nx' ((execOp ρ o).run P w) := by
  obtain ⟨i, zv, hi, hzv, hzc, h1, hsz⟩ := zeroOf_spec hz
  simp only [xop, zeros_eq, Option.some.injEq, Prod.mk.injEq] at hx
  obtain ⟨_, rfl, rfl, rfl⟩ := hx
  have hb := alloc_box (base := base) hst hid hbase e zv.cells (z.map fun x => .d (.v x)) (by simp [← hzc]) (fun i c hc => by
    simp only [List.getElem?_map, Option.map_eq_some_iff] at hc
    obtain ⟨x, hx, rfl⟩ := hc
    refine ⟨x, by rw [← hzc] at hx; simpa using hx, .v _ (h1 x (List.mem_of_getElem? hx))⟩)
  refine ⟨ptr w.heap.size 0, w.alloc (.cells zv.cells e), Γ.upd id w.heap.size none, .inl ?_, .c _ _ ⟨_, upd_ρ_same, rfl⟩, hb.1, CxLe.upd _ _ _ hid, hb.2, fun i hi => upd_ρ hi, .inr rfl⟩
  simp only [execOp, ho, Sem.run_bind, Instr.alloc, run_zeroValue' hi hzv, Result.andThen_ok, newVar, newRow, run_newObj, Sem.run_pure]
  rfl
theorem op_box {e : TypeId} {x : Operand} (ho : o.op = .box e x) (hev : ∀ x, RepV Γ w (ev x) (ρ x)) (hst : StoreOk Γ w σ) (hid : Γ.ρ id = none) (hbase : base ≤ id)
    (hx : xop ev σ id (.box x) = some (ob, v, σ', nx')) : Gives base Γ w σ id v σ' nx' ((execOp ρ o).run P w) := by
  simp only [xop] at hx
  split at hx
  · rename_i l hl
    simp only [Option.some.injEq, Prod.mk.injEq] at hx
    obtain ⟨_, rfl, rfl, rfl⟩ := hx
    obtain ⟨h1, h2, h3⟩ := (hev x).cells hl
    have hb := alloc_box (base := base) hst hid hbase e (ρ x).cells l h1 h2
    refine ⟨ptr w.heap.size 0, w.alloc (.cells (ρ x).cells e), Γ.upd id w.heap.size none, .inl ?_, .c _ _ ⟨_, upd_ρ_same, rfl⟩, hb.1, CxLe.upd _ _ _ hid, hb.2, fun i hi => upd_ρ hi, .inr rfl⟩
    simp only [execOp, ho, Sem.run_bind, Instr.box, newVar, newRow, run_newObj, Result.andThen_ok, Sem.run_pure]
    rfl
  · cases hx
theorem fold_set : ∀ (l : List Value) (k : Nat) (off : Nat) (cs : Array Value), (l.zipIdx k).foldl (fun cs (c, j) => cs.setIfInBounds (off + j) c) cs = (l.zipIdx (off + k)).foldl (fun cs (c, j) => cs.setIfInBounds j c) cs
  | [], _, _, _ => rfl
  | x :: l, k, off, cs => by simp only [List.zipIdx_cons, List.foldl_cons]; rw [fold_set l (k + 1) off]; rfl
theorem fold_set_get : ∀ (l : List Value) (off : Nat) (cs : Array Value) (i : Nat), off + l.length ≤ cs.size →
    ((l.zipIdx off).foldl (fun cs (c, j) => cs.setIfInBounds j c) cs)[i]? = if off ≤ i ∧ i < off + l.length then l[i - off]? else cs[i]?
  | [], off, cs, i, _ => by simp; intro h1 h2; omega
  | x :: l, off, cs, i, h => by
    simp only [List.zipIdx_cons, List.foldl_cons]
    simp only [List.length_cons] at h
    rw [fold_set_get l (off + 1) _ i (by simp; omega)]
    by_cases h1 : off + 1 ≤ i ∧ i < off + 1 + l.length
    · rw [if_pos h1, if_pos (by simp; omega), show i - off = (i - (off + 1)) + 1 by omega]; simp
    · rw [if_neg h1]
      by_cases h2 : i = off
      · subst h2; rw [if_pos (by simp)]; simp [Array.getElem?_setIfInBounds]; omega
      · rw [if_neg (by simp; omega), Array.getElem?_setIfInBounds_ne (Ne.symm h2)]
theorem fold_set_size : ∀ (l : List (Value × Nat)) (cs : Array Value), (l.foldl (fun cs (c, j) => cs.setIfInBounds j c) cs).size = cs.size
  | [], _ => rfl
  | (x, j) :: l, cs => by simp only [List.foldl_cons]; rw [fold_set_size l]; simp
theorem fill_bld {place : Nat → Option (Nat × Nat)} : ∀ (ps : List (Nat × Operand)) (lp : List (Nat × Nat × Operand)) (us : Array Value) (cs : List C) {R : Type} (k : List C → Option R) (r : R),
    (∀ x, RepV Γ w (ev x) (ρ x)) → lp.length = ps.length → (∀ (j i off n : Nat) (x y : Operand), ps[j]? = some (i, x) → lp[j]? = some (off, n, y) → y = x ∧ place i = some (off, n)) →
    us.size = cs.length → (∀ (i : Nat) c u, cs[i]? = some c → us[i]? = some u → RepC Γ w c u) →
    bld ev lp cs k = some r → ∃ us' cs', Instr.fill place us (ps.map fun (i, x) => (i, ρ x)) = some us' ∧ us'.size = cs'.length ∧ (∀ (i : Nat) c u, cs'[i]? = some c → us'[i]? = some u → RepC Γ w c u) ∧ k cs' = some r
  | [], [], us, cs, R, k, r, _, _, _, hl, hr, hb => ⟨us, cs, rfl, hl, hr, hb⟩
  | [], _ :: _, _, _, _, _, _, _, h, _, _, _, _ => by simp at h
  | _ :: _, [], _, _, _, _, _, _, h, _, _, _, _ => by simp at h
  | (i, x) :: ps, (off, n, y) :: lp, us, cs, R, k, r, hev, hlen, hp, hl, hr, hb => by
    obtain ⟨rfl, hpl⟩ := hp 0 i off n x y rfl rfl
    simp only [bld] at hb
    split at hb
    · rename_i l hvc
      split at hb
      · rename_i h1 h2
        have h1 := Nat.eq_of_beq_eq_true h1
        have h2 := Nat.le_of_ble_eq_true h2
        rw [frc_eq] at hb
        obtain ⟨hc1, hc2, hc3⟩ := (hev y).cells hvc
        have hus : off + (ρ y).cells.size ≤ us.size := by rw [hc1, hl]; omega
        have hfill : Instr.fill place us (((i, y) :: ps).map fun (i, x) => (i, ρ x)) =
            Instr.fill place ((ρ y).cells.zipIdx.foldl (fun cs (c, j) => cs.setIfInBounds (off + j) c) us) (ps.map fun (i, x) => (i, ρ x)) := by
          simp only [List.map_cons, Instr.fill, hpl]
          rw [if_neg (by simp; constructor <;> omega)]
        have harr : (ρ y).cells.zipIdx.foldl (fun cs (c, j) => cs.setIfInBounds (off + j) c) us = ((ρ y).cells.toList.zipIdx off).foldl (fun cs (c, j) => cs.setIfInBounds j c) us := by
          rw [← Array.foldl_toList, Array.toList_zipIdx, fold_set]; simp
        rw [hfill, harr]
        refine fill_bld ps lp _ (putC cs off l) k r hev (by simpa using hlen) (fun j i off n x y h1 h2 => hp (j + 1) i off n x y (by simpa using h1) (by simpa using h2)) ?_ ?_ hb
        · rw [fold_set_size, putC_length, hl]
        · intro q c u hc hu
          rw [putC_eq cs off l (by omega)] at hc
          rw [fold_set_get _ _ _ _ (by simpa using hus)] at hu
          by_cases hq : off ≤ q ∧ q < off + l.length
          · rw [if_pos (by simp [hc1]; omega)] at hu
            rw [List.append_assoc, List.getElem?_append_right (by simp; omega), List.getElem?_append_left (by simp; omega)] at hc
            have e : q - (cs.take off).length = q - off := by simp; omega
            rw [e] at hc
            obtain ⟨x, hx, hrr⟩ := hc2 _ _ hc
            have : (ρ y).cells.toList[q - off]? = some x := by simpa using hx
            rw [this] at hu; cases hu
            exact hrr
          · rw [if_neg (by simp [hc1]; omega)] at hu
            refine hr q c u ?_ hu
            by_cases hlt : q < off
            · rw [List.append_assoc, List.getElem?_append_left (by simp; omega), List.getElem?_take, if_pos hlt] at hc
              exact hc
            · rw [List.getElem?_append_right (by simp; omega), List.getElem?_drop] at hc
              rw [← hc]; congr 1; simp; omega
      · cases hb
    · cases hb
theorem run_placesL : ∀ (l : List Field), (∀ f ∈ l, (sizeT P f.type).isSome = true) →
    ∃ places : List (Nat × Nat), (l.mapM (fun f => do pure (f.offset, ← sizeOf f.type)) : Sem (List (Nat × Nat))).run P w = .ok places w ∧
      ∀ (i : Nat) (f : Field) (n : Nat), l[i]? = some f → sizeT P f.type = some n → places[i]? = some (f.offset, n)
  | [], _ => ⟨[], by simp, by simp⟩
  | f :: l, h => by
    obtain ⟨ps, hr, hp⟩ := run_placesL l (fun f hf => h f (List.mem_cons_of_mem _ hf))
    obtain ⟨n, hn⟩ := Option.isSome_iff_exists.1 (h f (List.mem_cons_self))
    refine ⟨(f.offset, n) :: ps, by
      rw [List.mapM_cons]
      simp only [Sem.run_bind, run_sizeT hn, Result.andThen_ok, Sem.run_pure, hr], fun i g m hg hm => ?_⟩
    cases i with
    | zero => simp at hg; subst hg; rw [hn] at hm; cases hm; rfl
    | succ i => exact hp i g m (by simpa using hg) hm
theorem run_places (fs : Array Field) (h : ∀ f ∈ fs.toList, (sizeT P f.type).isSome = true) :
    ∃ places : Array (Nat × Nat), (fs.mapM (fun f => do pure (f.offset, ← sizeOf f.type)) : Sem (Array (Nat × Nat))).run P w = .ok places w ∧
      ∀ (i : Nat) (f : Field) (n : Nat), fs[i]? = some f → sizeT P f.type = some n → places[i]? = some (f.offset, n) := by
  obtain ⟨ps, hr, hp⟩ := run_placesL (P := P) (w := w) fs.toList h
  refine ⟨ps.toArray, ?_, fun i f n hf hn => by simpa using hp i f n (by simpa using hf) hn⟩
  rw [Array.mapM_eq_mapM_toList, Sem.run_map, hr]
  rfl
theorem op_build {t : TypeId} {parts : Array (Nat × Operand)} {z : List Value} {lp : List (Nat × Nat × Operand)} (ho : o.op = .build t parts) (hz : zeroOf P t = some z)
    (hlp : (∃ fs, P.underlying t = some (.struct fs) ∧ (∀ f ∈ fs.toList, (sizeT P f.type).isSome = true) ∧ lowParts P fs parts.toList = some lp) ∨ (∃ m e n, P.underlying t = some (.array m e) ∧ sizeT P e = some n ∧ lp = parts.toList.map fun (i, x) => (i * n, n, x)))
    (hev : ∀ x, RepV Γ w (ev x) (ρ x)) (hst : StoreOk Γ w σ) (hx : xop ev σ id (.build z lp) = some (ob, v, σ', nx')) : Gives base Γ w σ id v σ' nx' ((execOp ρ o).run P w) := by
  obtain ⟨i, zv, hi, hzv, hzc, h1, hsz⟩ := zeroOf_spec hz
  simp only [xop, zeros_eq] at hx
  have hzr : ∀ (i : Nat) c u, (z.map fun x => C.d (D.v x))[i]? = some c → zv.cells[i]? = some u → RepC Γ w c u := fun i c u hc hu => by
    simp only [List.getElem?_map, Option.map_eq_some_iff] at hc
    obtain ⟨x, hx, rfl⟩ := hc
    have : zv.cells[i]? = some x := by rw [← hzc] at hx; simpa using hx
    rw [this] at hu; cases hu
    exact .v _ (h1 _ (List.mem_of_getElem? hx))
  have hzl : zv.cells.size = (z.map fun x => C.d (D.v x)).length := by simp [← hzc]
  have hmap : (parts.map fun (i, x) => (i, ρ x)).toList = parts.toList.map fun (i, x) => (i, ρ x) := by simp
  rcases hlp with ⟨fs, hu, hall, hlow⟩ | ⟨m, e, n, hu, hn, rfl⟩
  · -- a struct
    have hplaces : ∀ (l : List (Nat × Operand)) (lp : List (Nat × Nat × Operand)), lowParts P fs l = some lp → lp.length = l.length ∧
        ∀ (j i off n : Nat) (x y : Operand), l[j]? = some (i, x) → lp[j]? = some (off, n, y) → y = x ∧ ∃ f, fs[i]? = some f ∧ f.offset = off ∧ sizeT P f.type = some n := by
      intro l
      induction l with
      | nil => intro lp h; simp [lowParts] at h; subst h; exact ⟨rfl, by simp⟩
      | cons p l ih =>
        obtain ⟨i, x⟩ := p
        intro lp h
        simp only [lowParts, Option.bind_eq_bind, Option.bind_eq_some_iff, Option.some.injEq] at h
        obtain ⟨f, hf, n, hn, r, hr, rfl⟩ := h
        obtain ⟨h1, h2⟩ := ih r hr
        refine ⟨by simp [h1], fun j i' off n' x' y hj hj' => ?_⟩
        cases j with
        | zero => simp at hj hj'; obtain ⟨rfl, rfl⟩ := hj; obtain ⟨rfl, rfl, rfl⟩ := hj'; exact ⟨rfl, f, hf, rfl, hn⟩
        | succ j => exact h2 j i' off n' x' y (by simpa using hj) (by simpa using hj')
    obtain ⟨hlen, hpl⟩ := hplaces _ _ hlow
    -- the places, as the machine reckons them, wherever they are asked for
    obtain ⟨places, hrun, hpp⟩ := run_places (w := w) fs hall
    obtain ⟨us', cs', hfill, hl', hr', hk⟩ := fill_bld (Γ := Γ) (w := w) (ev := ev) (ρ := ρ) (place := (places[·]?)) parts.toList lp zv.cells _ _ _ hev hlen (fun j i off n x y h1 h2 => by
      obtain ⟨e, f, hf, ho, hs⟩ := hpl j i off n x y h1 h2
      exact ⟨e, by rw [hpp i f n hf hs, ho]⟩) hzl hzr hx
    simp only [Option.some.injEq, Prod.mk.injEq] at hk
    obtain ⟨_, rfl, rfl, rfl⟩ := hk
    refine Gives.same hst (u := .agg us') ?_ (.agg _ _ hl' hr')
    simp only [execOp, ho, Sem.run_bind, Instr.build, run_zeroValue' hi hzv, Result.andThen_ok, run_underlying hu, hrun, hmap, hfill, Sem.run_pure]
  · obtain ⟨us', cs', hfill, hl', hr', hk⟩ := fill_bld (Γ := Γ) (w := w) (ev := ev) (ρ := ρ) (place := fun i => some (i * n, n)) parts.toList _ zv.cells _ _ _ hev (by simp) (fun j i off n' x y h1 h2 => by
      simp only [List.getElem?_map, h1, Option.map_some, Option.some.injEq, Prod.mk.injEq] at h2
      obtain ⟨rfl, rfl, rfl⟩ := h2
      exact ⟨rfl, rfl⟩) hzl hzr hx
    simp only [Option.some.injEq, Prod.mk.injEq] at hk
    obtain ⟨_, rfl, rfl, rfl⟩ := hk
    refine Gives.same hst (u := .agg us') ?_ (.agg _ _ hl' hr')
    simp only [execOp, ho, Sem.run_bind, Instr.build, run_zeroValue' hi hzv, Result.andThen_ok, run_underlying hu, run_sizeT hn, hmap, hfill, Sem.run_pure]
end
end Go.Pw
set_option linter.unusedVariables false
namespace Go.Pw
open Go Go.RowKit
section
variable {P : Program} {base : Nat} {Γ : Cx} {w : World} {σ σ' : Store} {id nx' : Nat} {o : Oper} {ρ : Operand → Value} {ev : Operand → V} {ob : Prop} {v : V}
theorem toDs_some {R : Type} : ∀ (l : List C) (k : List D → Option R) (r : R), toDs l k = some r → ∃ ds, ds.length = l.length ∧ (∀ (i : Nat) c d, l[i]? = some c → ds[i]? = some d → toD c = some d) ∧ k ds = some r
  | [], k, r, h => ⟨[], rfl, by simp, h⟩
  | c :: l, k, r, h => by
    cases c with
    | d x =>
      obtain ⟨ds, h1, h2, h3⟩ := toDs_some l _ r h
      refine ⟨x :: ds, by simp [h1], fun i c d hc hd => ?_, h3⟩
      cases i with
      | zero => simp at hc hd; subst hc; subst hd; rfl
      | succ i => exact h2 i c d (by simpa using hc) (by simpa using hd)
    | tru =>
      obtain ⟨ds, h1, h2, h3⟩ := toDs_some l _ r h
      refine ⟨_ :: ds, by simp [h1], fun i c d hc hd => ?_, h3⟩
      cases i with
      | zero => simp at hc hd; subst hc; subst hd; rfl
      | succ i => exact h2 i c d (by simpa using hc) (by simpa using hd)
    | fls =>
      obtain ⟨ds, h1, h2, h3⟩ := toDs_some l _ r h
      refine ⟨_ :: ds, by simp [h1], fun i c d hc hd => ?_, h3⟩
      cases i with
      | zero => simp at hc hd; subst hc; subst hd; rfl
      | succ i => exact h2 i c d (by simpa using hc) (by simpa using hd)
    | _ => simp [toDs] at h
theorem toD_rep {c : C} {d : D} {u : Value} (h : toD c = some d) (hr : RepC Γ w c u) : RepD Γ.I w d u := by
  cases c with
  | d x => simp only [toD, Option.some.injEq] at h; subst h; exact hr
  | tru => simp only [toD, Option.some.injEq] at h; subst h; obtain rfl : u = _ := hr; exact .v _ rfl
  | fls => simp only [toD, Option.some.injEq] at h; subst h; obtain rfl : u = _ := hr; exact .v _ rfl
  | _ => simp [toD] at h
theorem op_load {t : TypeId} {x : Operand} {g : Bool} {n : Nat} (ho : o.op = .load t x) (hg : aggT P t = some g) (hn : sizeT P t = some n) (hg1 : (g || n == 1) = true) (hev : ∀ x, RepV Γ w (ev x) (ρ x)) (hst : StoreOk Γ w σ)
    (hx : xop ev σ id (.load g n x) = some (ob, v, σ', nx')) (hob : ob) : Gives base Γ w σ id v σ' nx' ((execOp ρ o).run P w) := by
  have hr := hev x
  simp only [xop] at hx
  have n1 : g = false → n = 1 := fun h => by subst h; simpa using hg1
  split at hx
  · -- a box
    rename_i i off hv
    rw [hv] at hr
    cases hr with | c _ u hr =>
    obtain ⟨b, hb, hu⟩ := hr
    split at hx
    · rename_i cs hgt
      obtain ⟨b', hb', _, xs, ty, hh, hsz, hcs⟩ := hst.ok i _ hgt
      rw [hb] at hb'; cases hb'
      have hc : ∀ (j : Nat) (c : C), (cs.drop off)[j]? = some c → ∃ u, w.cell? ((⟨b, off, none⟩ : Addr).add j) = some u ∧ RepC Γ w c u := fun j c hj => by
        rw [cell_at hh]; exact hcs (off + j) c (by rw [List.getElem?_drop] at hj; exact hj)
      cases g with
      | true =>
        obtain ⟨hl, hk⟩ := tkc_some _ _ _ _ hx
        simp only [Option.some.injEq, Prod.mk.injEq] at hk
        obtain ⟨_, rfl, rfl, rfl⟩ := hk
        exact load_ok ho hu hg hn hst hc (.inl ⟨rfl, hl, rfl⟩)
      | false =>
        simp only at hx
        split at hx
        · rename_i c rest hd
          simp only [Option.some.injEq, Prod.mk.injEq] at hx
          obtain ⟨_, rfl, rfl, rfl⟩ := hx
          rw [hd] at hc
          exact load_ok ho hu hg hn hst hc (.inr ⟨rfl, c, rest, rfl, rfl, n1 rfl⟩)
        · cases hx
    · cases hx
  · rename_i row hv
    rw [hv] at hr
    cases hr with | c _ u hr =>
    obtain ⟨ad, hu, _, hrow⟩ := hr
    have hc : ∀ (j : Nat) (c : C), (row.map C.d)[j]? = some c → ∃ u, w.cell? (ad.add j) = some u ∧ RepC Γ w c u := fun j c hj => by
      simp only [List.getElem?_map, Option.map_eq_some_iff] at hj
      obtain ⟨d, hd, rfl⟩ := hj
      exact hrow j d hd
    cases g with
    | true =>
      obtain ⟨hl, hk⟩ := tkd_some _ _ _ _ hx
      simp only [Option.some.injEq, Prod.mk.injEq] at hk
      obtain ⟨_, rfl, rfl, rfl⟩ := hk
      exact load_ok ho hu hg hn hst hc (.inl ⟨rfl, by simpa using hl, by rw [List.map_take]⟩)
    | false =>
      simp only at hx
      split at hx
      · rename_i d rest
        simp only [Option.some.injEq, Prod.mk.injEq] at hx
        obtain ⟨_, rfl, rfl, rfl⟩ := hx
        exact load_ok ho hu hg hn hst hc (.inr ⟨rfl, .d d, rest.map C.d, rfl, rfl, n1 rfl⟩)
      · cases hx
  · -- an owned row's element
    rename_i i s ii jj hv
    rw [hv] at hr
    cases hr with | c _ u hr =>
    obtain ⟨b, hb, hu⟩ := hr
    split at hx
    · rename_i e s' m f fz hgt
      obtain ⟨b', hb', hok⟩ := hst.ok i _ hgt
      rw [hb] at hb'; cases hb'
      split at hx
      · rename_i hs
        have hs := Nat.eq_of_beq_eq_true hs
        subst hs
        have main : ii < m → ∀ (j : Nat) (c : C), (((f ii).drop jj).map C.d)[j]? = some c → ∃ u, w.cell? ((⟨b, ii * s + jj, none⟩ : Addr).add j) = some u ∧ RepC Γ w c u := fun hlt j c hj => by
          rcases hok with ⟨_, h0⟩ | ⟨c0, _, _, _, _, _, _, xs, hh, _, hcell⟩
          · omega
          · simp only [List.getElem?_map, Option.map_eq_some_iff] at hj
            obtain ⟨d, hd, rfl⟩ := hj
            rw [List.getElem?_drop] at hd
            rw [cell_at hh, Nat.add_assoc]
            exact hcell ii (jj + j) d hlt hd
        cases g with
        | true =>
          obtain ⟨hl, hk⟩ := tkd_some _ _ _ _ hx
          simp only [Option.some.injEq, Prod.mk.injEq] at hk
          obtain ⟨rfl, rfl, rfl, rfl⟩ := hk
          exact load_ok ho hu hg hn hst (main hob) (.inl ⟨rfl, by simpa using hl, by rw [List.map_take]⟩)
        | false =>
          simp only at hx
          split at hx
          · rename_i d rest hd
            simp only [Option.some.injEq, Prod.mk.injEq] at hx
            obtain ⟨rfl, rfl, rfl, rfl⟩ := hx
            have hm := main hob
            rw [hd] at hm
            exact load_ok ho hu hg hn hst hm (.inr ⟨rfl, .d d, rest.map C.d, rfl, rfl, n1 rfl⟩)
          · cases hx
      · cases hx
    · cases hx
  · cases hx
theorem op_store {t : TypeId} {a x : Operand} {n : Nat} (ho : o.op = .store t a x) (hn : sizeT P t = some n) (hev : ∀ x, RepV Γ w (ev x) (ρ x)) (hst : StoreOk Γ w σ)
    (hx : xop ev σ id (.store n a x) = some (ob, v, σ', nx')) (hobq : ob) : Gives base Γ w σ id v σ' nx' ((execOp ρ o).run P w) := by
  have hr := hev a
  simp only [xop] at hx
  split at hx
  · rename_i i off hv
    rw [hv] at hr
    cases hr with | c _ u hr =>
    obtain ⟨b, hb, hu⟩ := hr
    split at hx
    · rename_i cs hgt
      obtain ⟨b', hb', hnI, xs, ty, hh, hsz, hcs⟩ := hst.ok i _ hgt
      rw [hb] at hb'; cases hb'
      split at hx
      · rename_i l hvc
        split at hx
        · rename_i h1 h2
          have h1 := Nat.eq_of_beq_eq_true h1
          have h2 := Nat.le_of_ble_eq_true h2
          rw [frc_eq, frs_eq] at hx
          simp only [Option.some.injEq, Prod.mk.injEq] at hx
          obtain ⟨_, rfl, rfl, rfl⟩ := hx
          obtain ⟨hc1, hc2, hc3⟩ := (hev x).cells hvc
          have hrun := run_storeCells_at (P := P) b off ty (ρ x).cells.toList 0 xs w hh (by simp [hc1]; omega) (fun y hy => one_oneCell' (hc3 y hy))
          simp only [Nat.add_zero] at hrun
          generalize hxs : (xs.toList.take off ++ (ρ x).cells.toList ++ xs.toList.drop (off + (ρ x).cells.toList.length)).toArray = xs' at hrun
          have hl : LiveE Γ i (.box cs) := trivial
          have hent : EntOk Γ (w.setRow b xs') i b (.box (putC cs off l)) := by
            refine ⟨hnI, xs', ty, setRow_heap w b xs xs' ty _ hh, ?_, fun q c hc => ?_⟩
            · rw [← hxs, putC_length]; simp [hc1]; omega
            · have hsame : Same Γ.I w (w.setRow b xs') := fun k hI => setRow_other w b k xs' (fun e => hnI (e ▸ hI))
              rw [putC_eq cs off l (by omega)] at hc
              suffices hs : ∃ y, xs'[q]? = some y ∧ RepC Γ w c y by
                obtain ⟨y, hy, hry⟩ := hs
                exact ⟨y, hy, hry.mono (CxLe.refl _) hsame⟩
              rw [← hxs]
              simp only [List.getElem?_toArray]
              by_cases hq : q < off
              · rw [List.append_assoc, List.getElem?_append_left (by simp; omega), List.getElem?_take, if_pos hq] at hc
                rw [List.append_assoc, List.getElem?_append_left (by simp; omega), List.getElem?_take, if_pos hq]
                obtain ⟨y, hy, hry⟩ := hcs q c hc
                exact ⟨y, by simpa using hy, hry⟩
              · by_cases hq2 : q < off + l.length
                · rw [List.append_assoc, List.getElem?_append_right (by simp; omega), List.getElem?_append_left (by simp; omega)] at hc
                  rw [List.append_assoc, List.getElem?_append_right (by simp; omega), List.getElem?_append_left (by simp [hc1]; omega)]
                  have e1 : q - (cs.take off).length = q - off := by simp; omega
                  have e2 : q - (xs.toList.take off).length = q - off := by simp; omega
                  rw [e1] at hc; rw [e2]
                  obtain ⟨y, hy, hry⟩ := hc2 _ c hc
                  exact ⟨y, by simpa using hy, hry⟩
                · rw [List.getElem?_append_right (by simp; omega), List.getElem?_drop] at hc
                  rw [List.getElem?_append_right (by simp [hc1]; omega), List.getElem?_drop]
                  have e1 : off + l.length + (q - (cs.take off ++ l).length) = q := by simp; omega
                  have e2 : off + (ρ x).cells.toList.length + (q - (xs.toList.take off ++ (ρ x).cells.toList).length) = q := by simp [hc1]; omega
                  rw [e1] at hc; rw [e2]
                  obtain ⟨y, hy, hry⟩ := hcs q c hc
                  exact ⟨y, by simpa using hy, hry⟩
          refine ⟨undef, w.setRow b xs', Γ, .inr ⟨?_, rfl⟩, .unk _, hst.modify hgt hb hl (by simp) (fun k _ hk => setRow_other w b k xs' hk) hent, CxLe.refl _,
            Ext.modify (liveId_iff.2 ⟨_, hgt, hl⟩) hb rfl rfl rfl (by simp) (fun k _ hk => setRow_other w b k xs' hk) (fun k hk => live_set hgt hl hk), fun _ _ => rfl, .inl ⟨rfl, rfl⟩⟩
          simp only [execOp, ho, Sem.run_bind, Instr.storeAt, hu, ptr, Instr.sureAddr, Sem.run_pure, Result.andThen_ok, storeVar, run_sizeT hn]
          rw [if_neg (by simp [hc1, h1])]
          rw [hrun]
          rfl
        · cases hx
      · cases hx
    · cases hx
  · rename_i i es ei ej hv
    rw [hv] at hr
    cases hr with | c _ u hr =>
    obtain ⟨b, hb, hu⟩ := hr
    split at hx
    · rename_i e s' m f hgt
      split at hx
      · rename_i l hvc
        obtain ⟨ds, hdl, hds, hx2⟩ := toDs_some _ _ _ hx
        split at hx2
        · rename_i h0 h1 h2
          have h0 := Nat.eq_of_beq_eq_true h0
          have h1 := Nat.eq_of_beq_eq_true h1
          have h2 := Nat.le_of_ble_eq_true h2
          subst h0
          rw [frs_eq] at hx2
          simp only [Option.some.injEq, Prod.mk.injEq] at hx2
          obtain ⟨rfl, rfl, rfl, rfl⟩ := hx2
          have hob : ei < m := hobq
          obtain ⟨b', hb', hent⟩ := hst.ok i _ hgt
          rw [hb] at hb'; cases hb'
          rcases hent with ⟨_, h3⟩ | ⟨c, hκ, _, hnI, hnc, hcm, hlen, xs, hh, hsz, hcs⟩
          · omega
          have hnI := hnI rfl
          obtain ⟨hc1, hc2, hc3⟩ := (hev x).cells hvc
          have hpos : ei * es + ej + l.length ≤ xs.size := by
            rw [hsz, h1]
            have : (ei + 1) * es ≤ c * es := Nat.mul_le_mul_right _ (by omega)
            rw [Nat.add_mul] at this; omega
          have hrun := run_storeCells_at (P := P) b (ei * es + ej) e (ρ x).cells.toList 0 xs w hh (by simp [hc1]; omega) (fun y hy => one_oneCell' (hc3 y hy))
          simp only [Nat.add_zero] at hrun
          generalize hxs : (xs.toList.take (ei * es + ej) ++ (ρ x).cells.toList ++ xs.toList.drop (ei * es + ej + (ρ x).cells.toList.length)).toArray = xs' at hrun
          have hl : LiveE Γ i (.row e es m f false) := ⟨rfl, c, hκ⟩
          have hent : EntOk Γ (w.setRow b xs') i b (.row e es m (setRw f ei ej ds) false) := by
            refine .inr ⟨c, hκ, (fun h => by cases h), fun _ => hnI, hnc, hcm, fun k hk => ?_, xs', setRow_heap w b xs xs' e _ hh, ?_, fun k q d hk hd => ?_⟩
            · unfold setRw
              split
              · rename_i hq; rw [putD_len]; exact hlen ei hob
              · exact hlen k hk
            · rw [← hxs]; simp [hc1]; omega
            · have hsame : Same Γ.I w (w.setRow b xs') := fun k hI => setRow_other w b k xs' (fun e => hnI (e ▸ hI))
              suffices hs : ∃ y, xs'[k * es + q]? = some y ∧ RepD Γ.I w d y by
                obtain ⟨y, hy, hry⟩ := hs
                exact ⟨y, hy, hry.mono (fun _ h => h) hsame⟩
              rw [← hxs]
              simp only [List.getElem?_toArray]
              have hxl : xs.toList.length = xs.size := by simp
              have hcl : (ρ x).cells.toList.length = l.length := by simp [hc1]
              -- where cell q of row k lies
              have hold : ∀ d, (f k)[q]? = some d → (k * es + q < ei * es + ej ∨ ei * es + ej + l.length ≤ k * es + q) → ∃ y, (xs.toList.take (ei * es + ej) ++ (ρ x).cells.toList ++ xs.toList.drop (ei * es + ej + (ρ x).cells.toList.length))[k * es + q]? = some y ∧ RepD Γ.I w d y := fun d hd hor => by
                obtain ⟨y, hy, hry⟩ := hcs k q d hk hd
                refine ⟨y, ?_, hry⟩
                rcases hor with hor | hor
                · rw [List.append_assoc, List.getElem?_append_left (by simp; omega), List.getElem?_take, if_pos hor]; simpa using hy
                · rw [List.getElem?_append_right (by simp; omega), List.getElem?_drop]
                  have e1 : ei * es + ej + (ρ x).cells.toList.length + (k * es + q - (xs.toList.take (ei * es + ej) ++ (ρ x).cells.toList).length) = k * es + q := by simp [hc1]; omega
                  rw [e1]; simpa using hy
              have hq : q < es := by
                have := (List.getElem?_eq_some_iff.1 hd).1
                have h5 : (setRw f ei ej ds k).length = es := by
                  unfold setRw
                  split
                  · rw [putD_len]; exact hlen ei hob
                  · exact hlen k hk
                omega
              unfold setRw at hd
              split at hd
              · rename_i hke
                have hke := Nat.eq_of_beq_eq_true hke
                subst hke
                rw [putD_get _ _ _ (by rw [hlen k hk]; omega)] at hd
                split at hd
                · rename_i hin
                  obtain ⟨y, hy, hry⟩ := hc2 (q - ej) (l[q - ej]'(by omega)) (List.getElem?_eq_getElem _)
                  refine ⟨y, ?_, toD_rep (hds _ _ _ (List.getElem?_eq_getElem _) hd) hry⟩
                  rw [List.append_assoc, List.getElem?_append_right (by simp; omega), List.getElem?_append_left (by simp [hc1]; omega)]
                  have e2 : k * es + q - (xs.toList.take (k * es + ej)).length = q - ej := by simp; omega
                  rw [e2]; simpa using hy
                · rename_i hout
                  exact hold d hd (by omega)
              · rename_i hke
                have hke : k ≠ ei := fun h => by subst h; rw [Nat.beq_refl] at hke; cases hke
                refine hold d hd ?_
                rcases Nat.lt_or_gt_of_ne hke with h | h
                · left
                  have : (k + 1) * es ≤ ei * es := Nat.mul_le_mul_right _ h
                  rw [Nat.add_mul] at this; omega
                · right
                  have : (ei + 1) * es ≤ k * es := Nat.mul_le_mul_right _ h
                  rw [Nat.add_mul] at this; omega
          refine ⟨undef, w.setRow b xs', Γ, .inr ⟨?_, rfl⟩, .unk _, hst.modify hgt hb hl (by simp) (fun k _ hk => setRow_other w b k xs' hk) hent, CxLe.refl _,
            Ext.modify (liveId_iff.2 ⟨_, hgt, hl⟩) hb rfl rfl rfl (by simp) (fun k _ hk => setRow_other w b k xs' hk) (fun k hk => live_set hgt hl hk), fun _ _ => rfl, .inl ⟨rfl, rfl⟩⟩
          simp only [execOp, ho, Sem.run_bind, Instr.storeAt, hu, ptr, Instr.sureAddr, Sem.run_pure, Result.andThen_ok, storeVar, run_sizeT hn]
          rw [if_neg (by simp [hc1, h1])]
          rw [hrun]
          rfl
        · cases hx2
      · cases hx
    · cases hx
  · cases hx
theorem op_fld {t : TypeId} {x : Operand} {f : Nat} {fs : Array Field} {fd : Field} {n : Nat} (ho : o.op = .fieldAddr t x f) (hu : P.underlying t = some (.struct fs)) (hf : fs[f]? = some fd) (hn : sizeT P fd.type = some n) (hn0 : n ≠ 0)
    (hev : ∀ x, RepV Γ w (ev x) (ρ x)) (hst : StoreOk Γ w σ) (hx : xop ev σ id (.fld fd.offset x) = some (ob, v, σ', nx')) : Gives base Γ w σ id v σ' nx' ((execOp ρ o).run P w) := by
  have hr := hev x
  have hrun : ∀ ad, ρ x = .pointer (some ad) → (execOp ρ o).run P w = .ok (.value (.pointer (some (ad.add fd.offset)))) w := fun ad hx => by
    simp only [execOp, ho, Sem.run_bind, Instr.fieldAt, run_underlying hu, Result.andThen_ok, hf, hx, Instr.sureAddr, Sem.run_pure, fieldPlace, run_sizeT hn, if_neg hn0]
  simp only [xop] at hx
  split at hx
  · rename_i i off hv
    rw [hv] at hr
    cases hr with | c _ u hr =>
    obtain ⟨b, hb, hu⟩ := hr
    simp only [Option.some.injEq, Prod.mk.injEq] at hx
    obtain ⟨_, rfl, rfl, rfl⟩ := hx
    refine Gives.same hst (u := ptr b (off + fd.offset)) ?_ (.c _ _ ⟨b, hb, rfl⟩)
    rw [hrun _ hu, Addr.add_lit]; rfl
  · rename_i row hv
    rw [hv] at hr
    cases hr with | c _ u hr =>
    obtain ⟨ad, hu, hI, hrow⟩ := hr
    simp only [Option.some.injEq, Prod.mk.injEq] at hx
    obtain ⟨_, rfl, rfl, rfl⟩ := hx
    refine Gives.same hst (u := .pointer (some (ad.add fd.offset))) (hrun _ hu) (.c _ _ ⟨_, rfl, by rw [block_add]; exact hI, fun j d hd => ?_⟩)
    rw [List.getElem?_drop] at hd
    rw [add_add]
    exact hrow _ d hd
  · rename_i i s ii jj hv
    rw [hv] at hr
    cases hr with | c _ u hr =>
    obtain ⟨b, hb, hu⟩ := hr
    simp only [Option.some.injEq, Prod.mk.injEq] at hx
    obtain ⟨_, rfl, rfl, rfl⟩ := hx
    refine Gives.same hst (u := ptr b (ii * s + (jj + fd.offset))) ?_ (.c _ _ ⟨b, hb, rfl⟩)
    rw [hrun _ hu, Addr.add_lit, Nat.add_assoc]; rfl
  · cases hx
theorem op_idx {t e : TypeId} {x i : Operand} {s : Nat} (ho : o.op = .indexAddr t x i) (hu : P.underlying t = some (.slice e)) (hn : sizeT P e = some s)
    (hev : ∀ x, RepV Γ w (ev x) (ρ x)) (hst : StoreOk Γ w σ) (hx : xop ev σ id (.idx s x i) = some (ob, v, σ', nx')) (hob : ob) : Gives base Γ w σ id v σ' nx' ((execOp ρ o).run P w) := by
  have hr := hev x
  have hri := hev i
  have hrun : ∀ ad n c k a, ρ x = .slice (some ad) n c → ρ i = .int k a → 0 ≤ a → a < n → (execOp ρ o).run P w = .ok (.value (.pointer (some (ad.add (a.toNat * s))))) w := fun ad n c k a h1 h2 h3 h4 => by
    simp only [execOp, ho, Sem.run_bind, Instr.indexAt, h2, asIntOf, Sem.run_pure, Result.andThen_ok, run_underlying hu, h1]
    rw [if_pos ⟨h3, h4⟩]
    simp [run_sizeT hn]
  simp only [xop] at hx
  split at hx
  · rename_i s' n f k a hvx hvi
    rw [hvx] at hr; rw [hvi] at hri
    split at hx
    · rename_i hs
      have hs := Nat.eq_of_beq_eq_true hs
      subst hs
      simp only [Option.some.injEq, Prod.mk.injEq] at hx
      obtain ⟨rfl, rfl, rfl, rfl⟩ := hx
      cases hr with | c _ u hr =>
      have hri := hri.int
      obtain ⟨h0, hlt⟩ := hob
      generalize hux : ρ x = ux at hr
      cases hr with
      | slE s f A c => simp at hlt; omega
      | sl s n f ad c U hnc hI hs hc hrr =>
        have ha : a.toNat < n := by omega
        refine Gives.same hst (hrun ad n c k a hux hri h0 hlt) (.c _ _ ⟨_, rfl, by rw [block_add]; exact hI, fun j d hd => ⟨U a.toNat j, ?_, hrr _ _ _ ha hd⟩⟩)
        rw [add_add]; exact hc _ _ _ ha hd
    · cases hx
  · rename_i i' n k a hvx hvi
    rw [hvx] at hr; rw [hvi] at hri
    simp only [Option.some.injEq, Prod.mk.injEq] at hx
    obtain ⟨rfl, rfl, rfl, rfl⟩ := hx
    cases hr with | c _ u hr =>
    have hri := hri.int
    obtain ⟨h0, hlt⟩ := hob
    obtain ⟨b, hb, hu'⟩ := hr
    rcases hu' with ⟨rfl, _, _⟩ | ⟨c, _, hux⟩
    · simp at hlt; omega
    · refine Gives.same hst (u := ptr b (a.toNat * s + 0)) ?_ (.c _ _ ⟨b, hb, rfl⟩)
      rw [hrun _ _ _ _ _ hux hri h0 hlt, Addr.add_lit]; simp [ptr]
  · rename_i i' n k a hvx hvi
    rw [hvx] at hr; rw [hvi] at hri
    split at hx
    · rename_i hs
      have hs := Nat.eq_of_beq_eq_true hs
      subst hs
      simp only [Option.some.injEq, Prod.mk.injEq] at hx
      obtain ⟨rfl, rfl, rfl, rfl⟩ := hx
      cases hr with | c _ u hr =>
      have hri := hri.int
      obtain ⟨h0, hlt⟩ := hob
      obtain ⟨b, hb, hux⟩ := hr
      refine Gives.same hst (u := ptr b a.toNat) ?_ (.c _ _ ⟨b, hb, rfl⟩)
      rw [hrun _ _ _ _ _ hux hri h0 hlt, Addr.add_lit]; simp [ptr]
    · cases hx
  · cases hx
theorem op_idxA {t e : TypeId} {m : Nat} {x i : Operand} {s : Nat} (ho : o.op = .indexAddr t x i) (hu : P.underlying t = some (.array m e)) (hn : sizeT P e = some s)
    (hev : ∀ x, RepV Γ w (ev x) (ρ x)) (hst : StoreOk Γ w σ) (hx : xop ev σ id (.idxA s m x i) = some (ob, v, σ', nx')) (hob : ob) : Gives base Γ w σ id v σ' nx' ((execOp ρ o).run P w) := by
  have hr := hev x
  have hri := hev i
  have hrun : ∀ ad k a, ρ x = .pointer (some ad) → ρ i = .int k a → 0 ≤ a → a < m → (execOp ρ o).run P w = .ok (.value (.pointer (some (ad.add (a.toNat * s))))) w := fun ad k a h1 h2 h3 h4 => by
    simp only [execOp, ho, Sem.run_bind, Instr.indexAt, h2, asIntOf, Sem.run_pure, Result.andThen_ok, run_underlying hu, h1, Instr.sureAddr]
    rw [if_pos ⟨h3, h4⟩]
    simp [run_sizeT hn]
  simp only [xop] at hx
  split at hx
  · rename_i i' off k a hvx hvi
    rw [hvx] at hr; rw [hvi] at hri
    cases hr with | c _ u hr =>
    obtain ⟨b, hb, hux⟩ := hr
    simp only [Option.some.injEq, Prod.mk.injEq] at hx
    obtain ⟨rfl, rfl, rfl, rfl⟩ := hx
    refine Gives.same hst (u := ptr b (off + a.toNat * s)) ?_ (.c _ _ ⟨b, hb, rfl⟩)
    rw [hrun _ _ _ hux hri.int hob.1 hob.2, Addr.add_lit]; rfl
  · rename_i row k a hvx hvi
    rw [hvx] at hr; rw [hvi] at hri
    cases hr with | c _ u hr =>
    obtain ⟨ad, hux, hI, hrow⟩ := hr
    simp only [Option.some.injEq, Prod.mk.injEq] at hx
    obtain ⟨rfl, rfl, rfl, rfl⟩ := hx
    refine Gives.same hst (hrun _ _ _ hux hri.int hob.1 hob.2) (.c _ _ ⟨_, rfl, by rw [block_add]; exact hI, fun j d hd => ?_⟩)
    rw [List.getElem?_drop] at hd
    rw [add_add]
    exact hrow _ d hd
  · cases hx
theorem op_boxS {e : TypeId} {x : Operand} (ho : o.op = .box e x) (hev : ∀ x, RepV Γ w (ev x) (ρ x)) (hst : StoreOk Γ w σ)
    (hx : xop ev σ id (.boxS x) = some (ob, v, σ', nx')) : Gives base Γ w σ id v σ' nx' ((execOp ρ o).run P w) := by
  simp only [xop] at hx
  split at hx
  · rename_i l hl
    obtain ⟨ds, hdl, hds, hx2⟩ := toDs_some _ _ _ hx
    simp only [Option.some.injEq, Prod.mk.injEq] at hx2; obtain ⟨_, rfl, rfl, rfl⟩ := hx2
    obtain ⟨h1, h2, h3⟩ := (hev x).cells hl
    have hb := alloc_still (base := base) hst (.cells (ρ x).cells e)
    refine ⟨ptr w.heap.size 0, w.alloc (.cells (ρ x).cells e), Γ.also fun k => k = w.heap.size, .inl ?_, .c _ _ ⟨_, rfl, .inr rfl, fun j d hd => ?_⟩, hb.1, CxLe.also _ _, hb.2, fun _ _ => rfl, .inl ⟨rfl, rfl⟩⟩
    · simp only [execOp, ho, Sem.run_bind, Instr.box, newVar, newRow, run_newObj, Result.andThen_ok, Sem.run_pure]
      rfl
    · have hj : j < l.length := by rw [← hdl]; exact (List.getElem?_eq_some_iff.1 hd).1
      obtain ⟨u, hu, hr⟩ := h2 j l[j] (List.getElem?_eq_getElem hj)
      refine ⟨u, ?_, ?_⟩
      · rw [cell_at (heap_alloc_new' _ _), Nat.zero_add]; exact hu
      · exact (toD_rep (hds j l[j] d (List.getElem?_eq_getElem hj) hd) hr).mono (fun _ h => .inl h) (alloc_same hst _)
  · cases hx
end
end Go.Pw
set_option linter.unusedVariables false
namespace Go.Pw
open Go Go.RowKit
section
variable {P : Program} {base : Nat} {Γ : Cx} {w : World} {σ σ' : Store} {id nx' : Nat} {o : Oper} {ρ : Operand → Value} {ev : Operand → V} {ob : Prop} {v : V}
theorem wrap64_id {n : Int} (h : R64 n) : IntKind.i64.wrap n = n := IntWalk.i64_in n h
theorem arith_ok {op : BinOp} {k : IntKind} {a b : Int} {p : Prop} {r : V} {t : TypeId} (h : arith op k a b = some (p, r)) (hp : p) :
    ∃ u, (binOp op t (.int k a) (.int k b)).run P w = .ok u w ∧ RepV Γ w r u := by
  cases op <;> simp only [arith] at h
  case add =>
    split at h <;> simp only [Option.some.injEq, Prod.mk.injEq] at h <;> obtain ⟨rfl, rfl⟩ := h
    · exact ⟨_, by rw [binOp_add]; simp [Op.intArith, wrap64_id hp], rep_int _ _⟩
    · exact ⟨_, by rw [binOp_add]; simp [Op.intArith], rep_int _ _⟩
  case sub =>
    split at h <;> simp only [Option.some.injEq, Prod.mk.injEq] at h <;> obtain ⟨rfl, rfl⟩ := h
    · exact ⟨_, by rw [binOp_sub]; simp [Op.intArith, wrap64_id hp], rep_int _ _⟩
    · exact ⟨_, by rw [binOp_sub]; simp [Op.intArith], rep_int _ _⟩
  case mul =>
    split at h <;> simp only [Option.some.injEq, Prod.mk.injEq] at h <;> obtain ⟨rfl, rfl⟩ := h
    · exact ⟨_, by rw [binOp_mul]; simp [Op.intArith, wrap64_id hp], rep_int _ _⟩
    · exact ⟨_, by rw [binOp_mul]; simp [Op.intArith], rep_int _ _⟩
  case quo =>
    split at h <;> simp only [Option.some.injEq, Prod.mk.injEq] at h <;> obtain ⟨rfl, rfl⟩ := h
    · exact ⟨_, by rw [binOp_quo]; simp [Op.intDiv, hp.1, wrap64_id hp.2], rep_int _ _⟩
    · exact ⟨_, by rw [binOp_quo]; simp only [Op.intDiv, if_neg hp]; rfl, rep_int _ _⟩
  case rem =>
    simp only [Option.some.injEq, Prod.mk.injEq] at h; obtain ⟨rfl, rfl⟩ := h
    exact ⟨_, by rw [binOp_rem]; simp only [Op.intDiv, if_neg hp]; rfl, rep_int _ _⟩
  case eql =>
    simp only [Option.some.injEq, Prod.mk.injEq] at h; obtain ⟨rfl, rfl⟩ := h
    exact ⟨_, by rw [binOp_eql]; rfl, by rw [show (a == b) = decide (a = b) from rfl]; exact rep_bool _⟩
  case neq =>
    simp only [Option.some.injEq, Prod.mk.injEq] at h; obtain ⟨rfl, rfl⟩ := h
    exact ⟨_, by rw [binOp_neq]; rfl, by rw [show (a != b) = !decide (a = b) from rfl]; exact rep_bool _⟩
  case lss =>
    simp only [Option.some.injEq, Prod.mk.injEq] at h; obtain ⟨rfl, rfl⟩ := h
    exact ⟨_, by rw [binOp_lss]; rfl, rep_bool _⟩
  case leq =>
    simp only [Option.some.injEq, Prod.mk.injEq] at h; obtain ⟨rfl, rfl⟩ := h
    exact ⟨_, by rw [binOp_leq]; rfl, rep_bool _⟩
  case gtr =>
    simp only [Option.some.injEq, Prod.mk.injEq] at h; obtain ⟨rfl, rfl⟩ := h
    exact ⟨_, by rw [binOp_gtr]; rfl, rep_bool _⟩
  case geq =>
    simp only [Option.some.injEq, Prod.mk.injEq] at h; obtain ⟨rfl, rfl⟩ := h
    exact ⟨_, by rw [binOp_geq]; rfl, rep_bool _⟩
  case and =>
    simp only [Option.some.injEq, Prod.mk.injEq] at h; obtain ⟨rfl, rfl⟩ := h
    exact ⟨_, by rw [binOp_and]; simp [Op.intBits], rep_int _ _⟩
  case or =>
    simp only [Option.some.injEq, Prod.mk.injEq] at h; obtain ⟨rfl, rfl⟩ := h
    exact ⟨_, by rw [binOp_or]; simp [Op.intBits], rep_int _ _⟩
  case xor =>
    simp only [Option.some.injEq, Prod.mk.injEq] at h; obtain ⟨rfl, rfl⟩ := h
    exact ⟨_, by rw [binOp_xor]; simp [Op.intBits], rep_int _ _⟩
  all_goals cases h
theorem binV_ok {op : BinOp} {k k' : IntKind} {a b : Int} {p : Prop} {r : V} {t : TypeId} (h : binV op k a k' b = some (p, r)) (hp : p) :
    ∃ u, (binOp op t (.int k a) (.int k' b)).run P w = .ok u w ∧ RepV Γ w r u := by
  unfold binV at h
  split at h
  · rename_i hs
    cases op <;> simp [isShift] at hs <;> simp only [shiftV, Option.some.injEq, Prod.mk.injEq] at h <;> obtain ⟨rfl, rfl⟩ := h
    · exact ⟨_, by simp only [binOp, Op.shift, if_neg (Int.not_lt.2 hp)]; rfl, rep_int _ _⟩
    · exact ⟨_, by simp only [binOp, Op.shift, if_neg (Int.not_lt.2 hp)]; rfl, rep_int _ _⟩
  · split at h
    · rename_i hk
      have hk := ksame_eq hk
      subst hk
      exact arith_ok h hp
    · cases h
theorem arithW_ok {op : BinOp} {k : IntKind} {a b : Int} {r : V} {t : TypeId} (h : arithW op k a b = some r) :
    ∃ u, (binOp op t (.int k a) (.int k b)).run P w = .ok u w ∧ RepV Γ w r u := by
  cases op <;> simp only [arithW, Option.some.injEq, reduceCtorEq] at h <;> subst h
  · exact ⟨_, by rw [binOp_add]; simp [Op.intArith], rep_int _ _⟩
  · exact ⟨_, by rw [binOp_sub]; simp [Op.intArith], rep_int _ _⟩
  · exact ⟨_, by rw [binOp_mul]; simp [Op.intArith], rep_int _ _⟩
theorem op_bin {op : BinOp} {t yt : TypeId} {x y : Operand} (ho : o.op = .binOp op t x y yt) (hev : ∀ x, RepV Γ w (ev x) (ρ x)) (hst : StoreOk Γ w σ)
    (hx : xop ev σ id (.bin op x y) = some (ob, v, σ', nx')) (hob : ob) : Gives base Γ w σ id v σ' nx' ((execOp ρ o).run P w) := by
  have h1 := hev x
  have h2 := hev y
  simp only [xop] at hx
  split at hx
  · rename_i k a k' b hvx hvy
    rw [hvx] at h1; rw [hvy] at h2
    split at hx
    · rename_i p r ha
      simp only [Option.some.injEq, Prod.mk.injEq] at hx
      obtain ⟨rfl, rfl, rfl, rfl⟩ := hx
      obtain ⟨u, hu, hr⟩ := binV_ok (P := P) (Γ := Γ) (w := w) (t := t) ha hob
      refine Gives.same hst (u := u) ?_ hr
      simp only [execOp, ho, Sem.run_bind, h1.int, h2.int, eqGuard_at_int, Sem.run_pure, Result.andThen_ok, hu]
    · cases hx
  · cases hx
theorem op_binW {op : BinOp} {t yt : TypeId} {x y : Operand} (ho : o.op = .binOp op t x y yt) (hev : ∀ x, RepV Γ w (ev x) (ρ x)) (hst : StoreOk Γ w σ)
    (hx : xop ev σ id (.binW op x y) = some (ob, v, σ', nx')) : Gives base Γ w σ id v σ' nx' ((execOp ρ o).run P w) := by
  have h1 := hev x
  have h2 := hev y
  simp only [xop] at hx
  split at hx
  · rename_i k a k' b hvx hvy
    rw [hvx] at h1; rw [hvy] at h2
    split at hx
    · rename_i hk
      have hk := ksame_eq hk
      subst hk
      split at hx
      · rename_i r ha
        simp only [Option.some.injEq, Prod.mk.injEq] at hx
        obtain ⟨rfl, rfl, rfl, rfl⟩ := hx
        obtain ⟨u, hu, hr⟩ := arithW_ok (P := P) (Γ := Γ) (w := w) (t := t) ha
        refine Gives.same hst (u := u) ?_ hr
        simp only [execOp, ho, Sem.run_bind, h1.int, h2.int, eqGuard_at_int, Sem.run_pure, Result.andThen_ok, hu]
      · cases hx
    · cases hx
  · cases hx
theorem op_un {op : UnOp} {t : TypeId} {x : Operand} (ho : o.op = .unOp op t x) (hev : ∀ x, RepV Γ w (ev x) (ρ x)) (hst : StoreOk Γ w σ)
    (hx : xop ev σ id (.un op x) = some (ob, v, σ', nx')) (hob : ob) : Gives base Γ w σ id v σ' nx' ((execOp ρ o).run P w) := by
  have h1 := hev x
  simp only [xop] at hx
  split at hx
  · rename_i hvx
    rw [hvx] at h1
    simp only [Option.some.injEq, Prod.mk.injEq] at hx; obtain ⟨rfl, rfl, rfl, rfl⟩ := hx
    refine Gives.same hst (u := .bool false) ?_ (.c _ _ rfl)
    simp [execOp, ho, h1.tru, Op.unary]
  · rename_i hvx
    rw [hvx] at h1
    simp only [Option.some.injEq, Prod.mk.injEq] at hx; obtain ⟨rfl, rfl, rfl, rfl⟩ := hx
    refine Gives.same hst (u := .bool true) ?_ (.c _ _ rfl)
    simp [execOp, ho, h1.fls, Op.unary]
  · rename_i b hvx
    rw [hvx] at h1
    simp only [Option.some.injEq, Prod.mk.injEq] at hx; obtain ⟨rfl, rfl, rfl, rfl⟩ := hx
    refine Gives.same hst (u := .bool (!b)) ?_ (rep_bool _)
    simp [execOp, ho, RepV.bool h1, Op.unary]
  · rename_i n hvx
    rw [hvx] at h1
    simp only [Option.some.injEq, Prod.mk.injEq] at hx; obtain ⟨rfl, rfl, rfl, rfl⟩ := hx
    refine Gives.same hst (u := .int .i64 (-n)) ?_ (rep_int _ _)
    have e : IntKind.i64.wrap (-n) = -n := wrap64_id hob
    simp only [execOp, ho, h1.int, Op.unary, Op.intArith]
    simp [e]
  · rename_i n hvx
    rw [hvx] at h1
    simp only [Option.some.injEq, Prod.mk.injEq] at hx; obtain ⟨rfl, rfl, rfl, rfl⟩ := hx
    cases h1 with | c _ _ h1 =>
    obtain ⟨b, hb, hf⟩ := h1
    refine Gives.same hst (u := .float .f64 (Op.negFloat .f64 b)) ?_ (.c _ _ ⟨_, rfl, neg_isF hf⟩)
    simp [execOp, ho, hb, Op.unary]
  · cases hx
theorem op_conv {src dst : TypeId} {k ks : IntKind} {x : Operand} (ho : o.op = .convert src dst x) (hs : P.underlying src = some (.int ks)) (hd : P.underlying dst = some (.int k)) (hev : ∀ x, RepV Γ w (ev x) (ρ x)) (hst : StoreOk Γ w σ)
    (hx : xop ev σ id (.conv k x) = some (ob, v, σ', nx')) (hob : ob) : Gives base Γ w σ id v σ' nx' ((execOp ρ o).run P w) := by
  have h1 := hev x
  have hrun : ∀ k' n, ρ x = .int k' n → (execOp ρ o).run P w = .ok (.value (.int k (k.wrap n))) w := fun k' n h => by
    simp only [execOp, ho, Sem.run_bind, convert, run_underlying hs, run_underlying hd, Result.andThen_ok, h, Conv.intToInt, Sem.run_pure]
  simp only [xop] at hx
  split at hx
  · rename_i k' n hvx
    rw [hvx] at h1
    split at hx
    · simp only [Option.some.injEq, Prod.mk.injEq] at hx; obtain ⟨rfl, rfl, rfl, rfl⟩ := hx
      refine Gives.same hst (u := .int .i64 n) ?_ (rep_int _ _)
      rw [hrun _ _ h1.int, wrap64_id hob]
    · simp only [Option.some.injEq, Prod.mk.injEq] at hx; obtain ⟨rfl, rfl, rfl, rfl⟩ := hx
      exact Gives.same hst (hrun _ _ h1.int) (rep_int _ _)
  · cases hx
theorem ids_some {R : Type} : ∀ (xs : List Operand) (k : List Nat → Option R) (r : R), ids ev xs k = some r → ∃ l, l.length = xs.length ∧ (∀ (i : Nat) x n, xs[i]? = some x → l[i]? = some n → ev x = .c (.bp n 0)) ∧ k l = some r
  | [], k, r, h => ⟨[], rfl, by simp, h⟩
  | x :: xs, k, r, h => by
    simp only [ids] at h
    split at h
    · rename_i n hn
      obtain ⟨l, hl, hx, hk⟩ := ids_some xs _ r h
      refine ⟨n :: l, by simp [hl], fun i y m hy hm => ?_, hk⟩
      cases i with
      | zero => simp at hy hm; subst hy; subst hm; exact hn
      | succ i => exact hx i y m (by simpa using hy) (by simpa using hm)
    · cases h
theorem op_mkfn0 {f : FuncId} {caps : Array Operand} {first : Array Operand} (ho : o.op = .makeFunc (.func f) first caps) (hfi : first.isEmpty = true) (hev : ∀ x, RepV Γ w (ev x) (ρ x)) (hst : StoreOk Γ w σ)
    (hx : (ids ev caps.toList fun l => some (True, V.c (.fn f l), σ, id)) = some (ob, v, σ', nx')) : Gives base Γ w σ id v σ' nx' ((execOp ρ o).run P w) := by
  obtain ⟨l, hl, hi, hk⟩ := ids_some _ _ _ hx
  simp only [Option.some.injEq, Prod.mk.injEq] at hk; obtain ⟨_, rfl, rfl, rfl⟩ := hk
  have hfirst : first = #[] := by simpa using hfi
  have key : ∀ (xs : List Operand) (l : List Nat), l.length = xs.length → (∀ (i : Nat) x n, xs[i]? = some x → l[i]? = some n → ev x = .c (.bp n 0)) →
      ∃ bs : List Nat, bs.length = l.length ∧ (∀ (j i : Nat), l[j]? = some i → ∃ b, Γ.ρ i = some b ∧ bs[j]? = some b) ∧ xs.map ρ = bs.map fun b => ptr b 0 := by
    intro xs
    induction xs with
    | nil => intro l hl _; have : l = [] := by simpa using hl
             subst this; exact ⟨[], rfl, by simp, rfl⟩
    | cons x xs ih =>
      intro l hl hx
      match l, hl with
      | n :: l, hl =>
        obtain ⟨bs, h1, h2, h3⟩ := ih l (by simpa using hl) (fun i y m hy hm => hx (i + 1) y m (by simpa using hy) (by simpa using hm))
        have hr := hev x
        rw [hx 0 x n rfl rfl] at hr
        cases hr with | c _ u hr =>
        obtain ⟨b, hb, hu⟩ := hr
        refine ⟨b :: bs, by simp [h1], fun j i hj => ?_, by simp [h3, hu]⟩
        cases j with
        | zero => simp at hj; subst hj; exact ⟨b, hb, rfl⟩
        | succ j => exact h2 j i (by simpa using hj)
  obtain ⟨bs, h1, h2, h3⟩ := key caps.toList l hl hi
  refine Gives.same hst (u := .func (.func f) #[] (bs.map fun b => ptr b 0).toArray) ?_ (.c _ _ ⟨bs, h1, h2, rfl⟩)
  have e : caps.map ρ = (bs.map fun b => ptr b 0).toArray := by rw [← h3, ← Array.toList_map, Array.toArray_toList]
  simp [execOp, ho, hfirst, Instr.makeFunc, e]
theorem rps_some {R : Type} : ∀ (xs : List Operand) (k : List (List D) → Option R) (r : R), rps ev xs k = some r → ∃ l, l.length = xs.length ∧ (∀ (i : Nat) x n, xs[i]? = some x → l[i]? = some n → ev x = .c (.rp n)) ∧ k l = some r
  | [], k, r, h => ⟨[], rfl, by simp, h⟩
  | x :: xs, k, r, h => by
    simp only [rps] at h
    split at h
    · rename_i row hx
      obtain ⟨l, h1, h2, h3⟩ := rps_some xs _ r h
      refine ⟨row :: l, by simp [h1], fun i y n hy hn => ?_, h3⟩
      cases i with
      | zero => simp at hy hn; subst hy; subst hn; exact hx
      | succ i => exact h2 i y n (by simpa using hy) (by simpa using hn)
    · cases h
theorem op_mkfn {f : FuncId} {caps : Array Operand} {first : Array Operand} (ho : o.op = .makeFunc (.func f) first caps) (hfi : first.isEmpty = true) (hev : ∀ x, RepV Γ w (ev x) (ρ x)) (hst : StoreOk Γ w σ)
    (hx : xop ev σ id (.mkfn f caps.toList) = some (ob, v, σ', nx')) : Gives base Γ w σ id v σ' nx' ((execOp ρ o).run P w) := by
  simp only [xop] at hx
  split at hx
  · rename_i hc
    refine op_mkfn0 ho hfi hev hst (ob := ob) (v := v) (σ' := σ') (nx' := nx') ?_
    rw [hc]; exact hx
  · rename_i x xs hc
    split at hx
    · obtain ⟨l, hl, hi, hk⟩ := rps_some _ _ _ hx
      simp only [Option.some.injEq, Prod.mk.injEq] at hk; obtain ⟨_, rfl, rfl, rfl⟩ := hk
      have hfirst : first = #[] := by simpa using hfi
      refine Gives.same hst (u := .func (.func f) #[] (caps.map ρ)) ?_ (.c _ _ ⟨(caps.map ρ).toList, by simp [hl], fun j row u hj hu => ?_, by rw [Array.toArray_toList]⟩)
      · simp [execOp, ho, hfirst, Instr.makeFunc]
      · simp only [Array.toList_map, List.getElem?_map, Option.map_eq_some_iff] at hu
        obtain ⟨y, hy, rfl⟩ := hu
        have := hev y
        rw [hi j y row hy hj] at this
        cases this with | c _ _ h => exact h
    · exact op_mkfn0 ho hfi hev hst hx
theorem op_mkfnB {f : FuncId} {x : Operand} {first : Array Operand} {caps : Array Operand} (ho : o.op = .makeFunc (.func f) first caps) (hfi : first.toList = [x]) (hca : caps.toList = []) (hev : ∀ x, RepV Γ w (ev x) (ρ x)) (hst : StoreOk Γ w σ)
    (hx : xop ev σ id (.mkfnB f x) = some (ob, v, σ', nx')) : Gives base Γ w σ id v σ' nx' ((execOp ρ o).run P w) := by
  have hr := hev x
  simp only [xop] at hx
  split at hx
  · rename_i cs hv
    rw [hv] at hr
    obtain ⟨ds, h1, h2, hx⟩ := toDs_some _ _ _ hx
    simp only [Option.some.injEq, Prod.mk.injEq] at hx; obtain ⟨_, rfl, rfl, rfl⟩ := hx
    have hf : first = #[x] := by rw [← Array.toArray_toList (xs := first), hfi]
    have hc : caps = #[] := by rw [← Array.toArray_toList (xs := caps), hca]
    generalize hu : ρ x = u at hr
    cases hr with
    | agg _ us hl hr =>
      refine Gives.same hst (u := .func (.func f) #[.agg us] #[]) ?_ (.c _ _ ⟨us, by rw [hl, h1], fun j d y hj hy => ?_, rfl⟩)
      · simp [execOp, ho, hf, hc, Instr.makeFunc, hu]
      · have hjl : j < cs.length := by rw [← h1]; exact (List.getElem?_eq_some_iff.1 hj).1
        have hcj : cs[j]? = some cs[j] := List.getElem?_eq_getElem hjl
        exact toD_rep (h2 j _ d hcj hj) (hr j _ y hcj hy)
  · cases hx
theorem op_part {t : TypeId} {x : Operand} {f : Nat} {fs : Array Field} {fd : Field} {g : Bool} {n : Nat} (ho : o.op = .field t x f) (hu : P.underlying t = some (.struct fs)) (hf : fs[f]? = some fd) (hg : aggT P fd.type = some g) (hn : sizeT P fd.type = some n)
    (hev : ∀ x, RepV Γ w (ev x) (ρ x)) (hst : StoreOk Γ w σ) (hx : xop ev σ id (.part g fd.offset n x) = some (ob, v, σ', nx')) : Gives base Γ w σ id v σ' nx' ((execOp ρ o).run P w) := by
  have hr := hev x
  simp only [xop] at hx
  split at hx
  · rename_i cs hv
    rw [hv] at hr
    generalize hux : ρ x = ux at hr
    cases hr with | agg _ us hl hr =>
    split at hx
    · obtain ⟨hle, hk⟩ := tkc_some _ _ _ _ hx
      simp only [Option.some.injEq, Prod.mk.injEq] at hk; obtain ⟨_, rfl, rfl, rfl⟩ := hk
      refine Gives.same hst (u := .agg (us.extract fd.offset (fd.offset + n))) ?_ (.agg _ _ (by simp at hle ⊢; omega) (fun i c u hc hu => ?_))
      · simp [execOp, ho, Instr.field, run_underlying hu, hf, hux, asAgg, part, run_isAgg hg, run_sizeT hn]
      · rw [List.getElem?_take] at hc
        split at hc
        · rename_i hlt
          rw [List.getElem?_drop] at hc
          rw [Array.getElem?_extract] at hu
          split at hu
          · exact hr _ c u hc hu
          · cases hu
        · cases hc
    · split at hx
      · rename_i c rest hd
        simp only [Option.some.injEq, Prod.mk.injEq] at hx; obtain ⟨_, rfl, rfl, rfl⟩ := hx
        have hc : cs[fd.offset]? = some c := by
          have : (cs.drop fd.offset)[0]? = some c := by rw [hd]; rfl
          rw [List.getElem?_drop] at this; simpa using this
        have hlt : fd.offset < us.size := by rw [hl]; exact (List.getElem?_eq_some_iff.1 hc).1
        refine Gives.same hst (u := us[fd.offset]) ?_ (.c _ _ (hr _ c _ hc (by simp [hlt])))
        simp [execOp, ho, Instr.field, run_underlying hu, hf, hux, asAgg, part, run_isAgg hg, hlt]
      · cases hx
  · cases hx
theorem op_index {t e : TypeId} {m : Nat} {x i : Operand} {g : Bool} {n : Nat} (ho : o.op = .index t x i) (hu : P.underlying t = some (.array m e)) (hg : aggT P e = some g) (hn : sizeT P e = some n)
    (hev : ∀ x, RepV Γ w (ev x) (ρ x)) (hst : StoreOk Γ w σ) (hx : xop ev σ id (.index g n m x i) = some (ob, v, σ', nx')) (hob : ob) : Gives base Γ w σ id v σ' nx' ((execOp ρ o).run P w) := by
  have hr := hev x
  have hri := hev i
  simp only [xop] at hx
  split at hx
  · rename_i cs k a hv hvi
    rw [hv] at hr; rw [hvi] at hri
    have hri := hri.int
    generalize hux : ρ x = ux at hr
    cases hr with | agg _ us hl hr =>
    split at hx
    · obtain ⟨hle, hk⟩ := tkc_some _ _ _ _ hx
      simp only [Option.some.injEq, Prod.mk.injEq] at hk; obtain ⟨rfl, rfl, rfl, rfl⟩ := hk
      refine Gives.same hst (u := .agg (us.extract (a.toNat * n) (a.toNat * n + n))) ?_ (.agg _ _ (by simp at hle ⊢; omega) (fun i c u hc hu => ?_))
      · simp only [execOp, ho, Sem.run_bind, Instr.index, hri, asIntOf, Sem.run_pure, Result.andThen_ok, run_underlying hu, hux]
        rw [if_pos hob]
        simp [part, run_isAgg hg, run_sizeT hn]
      · rw [List.getElem?_take] at hc
        split at hc
        · rw [List.getElem?_drop] at hc
          rw [Array.getElem?_extract] at hu
          split at hu
          · exact hr _ c u hc hu
          · cases hu
        · cases hc
    · split at hx
      · rename_i c rest hd
        simp only [Option.some.injEq, Prod.mk.injEq] at hx; obtain ⟨rfl, rfl, rfl, rfl⟩ := hx
        have hc : cs[a.toNat * n]? = some c := by
          have : (cs.drop (a.toNat * n))[0]? = some c := by rw [hd]; rfl
          rw [List.getElem?_drop] at this; simpa using this
        have hlt : a.toNat * n < us.size := by rw [hl]; exact (List.getElem?_eq_some_iff.1 hc).1
        refine Gives.same hst (u := us[a.toNat * n]) ?_ (.c _ _ (hr _ c _ hc (by simp [hlt])))
        simp only [execOp, ho, Sem.run_bind, Instr.index, hri, asIntOf, Sem.run_pure, Result.andThen_ok, run_underlying hu, hux]
        rw [if_pos hob]
        simp [part, run_isAgg hg, run_sizeT hn, hlt]
      · cases hx
  · cases hx
theorem op_indexS {t : TypeId} {x i : Operand} (ho : o.op = .index t x i) (hu : P.underlying t = some .string)
    (hev : ∀ x, RepV Γ w (ev x) (ρ x)) (hst : StoreOk Γ w σ) (hx : xop ev σ id (.indexS x i) = some (ob, v, σ', nx')) (hob : ob) : Gives base Γ w σ id v σ' nx' ((execOp ρ o).run P w) := by
  have hr := hev x
  have hri := hev i
  simp only [xop] at hx
  split at hx
  · rename_i b k a hv hvi
    rw [hv] at hr; rw [hvi] at hri
    simp only [Option.some.injEq, Prod.mk.injEq] at hx; obtain ⟨rfl, rfl, rfl, rfl⟩ := hx
    obtain ⟨h0, hlt⟩ := hob
    have hlt' : a.toNat < b.size := by omega
    refine Gives.same hst (u := .int .u8 (b[a.toNat].toNat : Int)) ?_ ?_
    · simp only [execOp, ho, Sem.run_bind, Instr.index, hri.int, asIntOf, Sem.run_pure, Result.andThen_ok, run_underlying hu, hr.str]
      rw [if_pos h0]
      simp [hlt']
    · have e : b.data.toList.getD a.toNat 0 = b[a.toNat] := by
        have hd : a.toNat < b.data.size := hlt'
        have h1 : b.data.toList[a.toNat]? = some b[a.toNat] := by
          rw [Array.getElem?_toList, Array.getElem?_eq_getElem hd]; rfl
        rw [List.getD, h1]; rfl
      rw [e]; exact rep_int _ _
  · cases hx
theorem op_ext {x : Operand} {i : Nat} (ho : o.op = .extract x i) (hev : ∀ x, RepV Γ w (ev x) (ρ x)) (hst : StoreOk Γ w σ)
    (hx : xop ev σ id (.ext x i) = some (ob, v, σ', nx')) : Gives base Γ w σ id v σ' nx' ((execOp ρ o).run P w) := by
  have hr := hev x
  simp only [xop] at hx
  split at hx
  · rename_i vs hv
    rw [hv] at hr
    generalize hux : ρ x = ux at hr
    cases hr with | tup _ us hl hr =>
    have main : ∀ y rest, vs.drop i = y :: rest → ∃ u, (execOp ρ o).run P w = .ok (.value u) w ∧ RepV Γ w y u := fun y rest hd => by
      have hc : vs[i]? = some y := by
        have : (vs.drop i)[0]? = some y := by rw [hd]; rfl
        rw [List.getElem?_drop] at this; simpa using this
      have hlt : i < us.size := by rw [hl]; exact (List.getElem?_eq_some_iff.1 hc).1
      exact ⟨us[i], by simp [execOp, ho, Instr.extract, hux, hlt], hr i y _ hc (by simp [hlt])⟩
    split at hx
    · rename_i y rest hd
      simp only [Option.some.injEq, Prod.mk.injEq] at hx; obtain ⟨_, rfl, rfl, rfl⟩ := hx
      obtain ⟨u, h1, h2⟩ := main _ _ hd; exact Gives.same hst h1 h2
    · rename_i y rest hd
      simp only [Option.some.injEq, Prod.mk.injEq] at hx; obtain ⟨_, rfl, rfl, rfl⟩ := hx
      obtain ⟨u, h1, h2⟩ := main _ _ hd; exact Gives.same hst h1 h2
    · rename_i rest hd
      simp only [Option.some.injEq, Prod.mk.injEq] at hx; obtain ⟨_, rfl, rfl, rfl⟩ := hx
      obtain ⟨u, h1, h2⟩ := main _ _ hd; exact Gives.same hst h1 h2
    · cases hx
  · cases hx
theorem op_len {x : Operand} {t e : TypeId} {c : Call} (ho : o.op = .call c) (hc : c.callee = .builtin .len) (hargs : c.args.toList = [x]) (htys : c.argTypes.toList = [t])
    (ht : P.underlying t = some (.slice e)) (hev : ∀ x, RepV Γ w (ev x) (ρ x)) (hst : StoreOk Γ w σ)
    (hx : xop ev σ id (.len x) = some (ob, v, σ', nx')) : Gives base Γ w σ id v σ' nx' ((execOp ρ o).run P w) := by
  have hr := hev x
  have hargs' : c.args = #[x] := by rw [← Array.toArray_toList (xs := c.args), hargs]
  have htys' : c.argTypes = #[t] := by rw [← Array.toArray_toList (xs := c.argTypes), htys]
  have hrun : ∀ A n cap, ρ x = .slice A n cap → (execOp ρ o).run P w = .ok (.value (.int .i64 n)) w := fun A n cap h => by
    simp [execOp, ho, resolve, hc, hargs', htys', invoke, builtin, Builtin.len_, run_underlying ht, h, goInt]
  simp only [xop] at hx
  split at hx
  · rename_i s n f hv
    rw [hv] at hr
    simp only [Option.some.injEq, Prod.mk.injEq] at hx; obtain ⟨_, rfl, rfl, rfl⟩ := hx
    cases hr with | c _ u hr =>
    generalize hux : ρ x = ux at hr
    cases hr with
    | slE s f A c => exact Gives.same hst (hrun _ _ _ hux) (rep_int _ _)
    | sl s n f ad c U => exact Gives.same hst (hrun _ _ _ hux) (rep_int _ _)
  · rename_i i n hv
    rw [hv] at hr
    simp only [Option.some.injEq, Prod.mk.injEq] at hx; obtain ⟨_, rfl, rfl, rfl⟩ := hx
    cases hr with | c _ u hr =>
    obtain ⟨b, _, hu⟩ := hr
    rcases hu with ⟨rfl, _, hu⟩ | ⟨c, _, hu⟩
    · exact Gives.same hst (hrun _ _ _ hu) (rep_int _ _)
    · exact Gives.same hst (hrun _ _ _ hu) (rep_int _ _)
  · rename_i hv
    rw [hv] at hr
    simp only [Option.some.injEq, Prod.mk.injEq] at hx; obtain ⟨_, rfl, rfl, rfl⟩ := hx
    cases hr with | c _ u hr =>
    generalize hux : ρ x = ux at hr
    cases hr
    exact Gives.same hst (hrun _ _ _ hux) (rep_int _ _)
  · rename_i hv
    rw [hv] at hr
    simp only [Option.some.injEq, Prod.mk.injEq] at hx; obtain ⟨_, rfl, rfl, rfl⟩ := hx
    cases hr with | c _ u hr =>
    obtain ⟨A, hux⟩ := hr
    exact Gives.same hst (hrun _ _ _ hux) (rep_int _ _)
  · rename_i s n f hv
    rw [hv] at hr
    simp only [Option.some.injEq, Prod.mk.injEq] at hx; obtain ⟨_, rfl, rfl, rfl⟩ := hx
    cases hr with | c _ u hr =>
    obtain ⟨⟨A, hux⟩, _⟩ := hr
    exact Gives.same hst (hrun _ _ _ hux) (rep_int _ _)
  · rename_i i n hv
    rw [hv] at hr
    simp only [Option.some.injEq, Prod.mk.injEq] at hx; obtain ⟨_, rfl, rfl, rfl⟩ := hx
    cases hr with | c _ u hr =>
    obtain ⟨b, _, hux⟩ := hr
    exact Gives.same hst (hrun _ _ _ hux) (rep_int _ _)
  · cases hx
theorem op_lenS {x : Operand} {t : TypeId} {c : Call} (ho : o.op = .call c) (hc : c.callee = .builtin .len) (hargs : c.args.toList = [x]) (htys : c.argTypes.toList = [t])
    (ht : P.underlying t = some .string) (hev : ∀ x, RepV Γ w (ev x) (ρ x)) (hst : StoreOk Γ w σ)
    (hx : xop ev σ id (.lenS x) = some (ob, v, σ', nx')) : Gives base Γ w σ id v σ' nx' ((execOp ρ o).run P w) := by
  have hr := hev x
  have hargs' : c.args = #[x] := by rw [← Array.toArray_toList (xs := c.args), hargs]
  have htys' : c.argTypes = #[t] := by rw [← Array.toArray_toList (xs := c.argTypes), htys]
  simp only [xop] at hx
  split at hx
  · rename_i b hv
    rw [hv] at hr
    simp only [Option.some.injEq, Prod.mk.injEq] at hx; obtain ⟨_, rfl, rfl, rfl⟩ := hx
    refine Gives.same hst (u := .int .i64 b.size) ?_ (rep_int _ _)
    simp [execOp, ho, resolve, hc, hargs', htys', invoke, builtin, Builtin.len_, run_underlying ht, hr.str, goInt]
  · cases hx
theorem mm_ok : ∀ (xs : List Operand) (isMax : Bool) (k : IntKind) (a : Int) (v : V), (∀ x, RepV Γ w (ev x) (ρ x)) → mmx isMax ev k xs a = some v →
    ∃ n : Int, v = vi k n ∧ ((xs.map ρ).foldlM (if isMax then Builtin.max2 else Builtin.min2) (.int k a)).run P w = .ok (.int k n) w
  | [], isMax, k, a, v, _, h => by
    simp only [mmx, Option.some.injEq] at h
    exact ⟨a, h.symm, by simp⟩
  | x :: xs, isMax, k, a, v, hev, h => by
    simp only [mmx] at h
    have hr := hev x
    split at h
    · rename_i k' b hv
      rw [hv] at hr
      split at h
      · rename_i hk
        have hk := ksame_eq hk
        subst hk
        cases isMax with
        | true =>
          obtain ⟨n, hn, hrun⟩ := mm_ok xs true k (max a b) v hev h
          refine ⟨n, hn, ?_⟩
          have e : (Builtin.max2 (.int k a) (.int k b)).run P w = .ok (.int k (max a b)) w := by
            simp only [Builtin.max2, Sem.run_pure, gt_iff_lt]
            congr 2
            omega
          simp only [if_true] at hrun ⊢
          simp only [List.map_cons, List.foldlM_cons, Sem.run_bind, hr.int, e, Result.andThen_ok, hrun]
        | false =>
          obtain ⟨n, hn, hrun⟩ := mm_ok xs false k (min a b) v hev h
          refine ⟨n, hn, ?_⟩
          have e : (Builtin.min2 (.int k a) (.int k b)).run P w = .ok (.int k (min a b)) w := by
            simp only [Builtin.min2, Sem.run_pure]
            congr 2
            omega
          simp only [Bool.false_eq_true, if_false] at hrun ⊢
          simp only [List.map_cons, List.foldlM_cons, Sem.run_bind, hr.int, e, Result.andThen_ok, hrun]
      · cases h
    · cases h
theorem op_mm {isMax : Bool} {c : Call} (ho : o.op = .call c) (hc : c.callee = .builtin (if isMax then .max else .min)) (hev : ∀ x, RepV Γ w (ev x) (ρ x)) (hst : StoreOk Γ w σ)
    (hx : xop ev σ id (.mm isMax c.args.toList) = some (ob, v, σ', nx')) : Gives base Γ w σ id v σ' nx' ((execOp ρ o).run P w) := by
  simp only [xop] at hx
  split at hx
  · rename_i x xs hxs
    have hr := hev x
    split at hx
    · rename_i k a hv
      rw [hv] at hr
      split at hx
      · rename_i v' hm
        simp only [Option.some.injEq, Prod.mk.injEq] at hx; obtain ⟨_, rfl, rfl, rfl⟩ := hx
        obtain ⟨n, rfl, hrun⟩ := mm_ok (P := P) (w := w) xs isMax k a _ hev hm
        refine Gives.same hst (u := .int k n) ?_ (rep_int _ _)
        have e : (c.args.map ρ).toList = ρ x :: xs.map ρ := by rw [Array.toList_map, hxs]; rfl
        cases isMax with
        | true =>
          simp only [if_true] at hc hrun
          simp only [execOp, ho, resolve, hc, Sem.run_bind, Sem.run_pure, Result.andThen_ok, invoke, builtin, Builtin.max_, e, hr.int, hrun]
        | false =>
          simp only [Bool.false_eq_true, if_false] at hc hrun
          simp only [execOp, ho, resolve, hc, Sem.run_bind, Sem.run_pure, Result.andThen_ok, invoke, builtin, Builtin.min_, e, hr.int, hrun]
      · cases hx
    · cases hx
  · cases hx
end
end Go.Pw
set_option linter.unusedVariables false
namespace Go.Pw
open Go Go.RowKit
section
variable {P : Program} {base : Nat} {Γ : Cx} {w : World} {σ σ' : Store} {id nx' : Nat} {o : Oper} {ρ : Operand → Value} {ev : Operand → V} {ob : Prop} {v : V}
theorem vbool_some {R : Type} {v : V} {k : Bool → Option R} {r : R} (h : vbool v k = some r) : ∃ b, k b = some r ∧ ∀ (Γ : Cx) (w : World) u, RepV Γ w v u → u = .bool b := by
  unfold vbool at h
  split at h
  · exact ⟨true, h, fun Γ w u hu => hu.tru⟩
  · exact ⟨false, h, fun Γ w u hu => hu.fls⟩
  · exact ⟨_, h, fun Γ w u hu => RepV.bool hu⟩
  · cases h
theorem op_eqB {neg : Bool} {op : BinOp} {t yt : TypeId} {x y : Operand} (ho : o.op = .binOp op t x y yt) (ht : P.underlying t = some .bool) (hop : op = if neg then .neq else .eql)
    (hev : ∀ x, RepV Γ w (ev x) (ρ x)) (hst : StoreOk Γ w σ) (hx : xop ev σ id (.eqB neg x y) = some (ob, v, σ', nx')) : Gives base Γ w σ id v σ' nx' ((execOp ρ o).run P w) := by
  simp only [xop] at hx
  obtain ⟨p, hx, hp⟩ := vbool_some hx
  obtain ⟨q, hx, hq⟩ := vbool_some hx
  have hp := hp Γ w _ (hev x)
  have hq := hq Γ w _ (hev y)
  have heq : (Op.equal t (.bool p) (.bool q)).run P w = .ok (p == q) w := by
    unfold Op.equal
    exact run_equalIn_bool' w 9999 t p q ht
  cases neg with
  | true =>
    simp only [Option.some.injEq, Prod.mk.injEq] at hx; obtain ⟨_, rfl, rfl, rfl⟩ := hx
    simp only [if_true] at hop
    subst hop
    refine Gives.same hst (u := .bool (p != q)) ?_ (rep_bool _)
    simp only [execOp, ho, Sem.run_bind, hp, hq, eqGuard_at_bool, Sem.run_pure, Result.andThen_ok, binOp, heq]
    rfl
  | false =>
    simp only [Option.some.injEq, Prod.mk.injEq] at hx; obtain ⟨_, rfl, rfl, rfl⟩ := hx
    simp only [Bool.false_eq_true, if_false] at hop
    subst hop
    refine Gives.same hst (u := .bool (p == q)) ?_ (rep_bool _)
    simp only [execOp, ho, Sem.run_bind, hp, hq, eqGuard_at_bool, Sem.run_pure, Result.andThen_ok, binOp, heq]
theorem repC_str {a : ByteArray} {u : Value} (h : RepC Γ w (.d (.v (.string a))) u) : u = .string a := by
  generalize hd : D.v (.string a) = d at h
  cases (show RepD Γ.I w d u from h) <;> first | cases hd
  rfl
theorem op_eqS {neg : Bool} {op : BinOp} {t yt : TypeId} {x y : Operand} (ho : o.op = .binOp op t x y yt) (ht : P.underlying t = some .string) (hop : op = if neg then .neq else .eql)
    (hev : ∀ x, RepV Γ w (ev x) (ρ x)) (hst : StoreOk Γ w σ) (hx : xop ev σ id (.eqS neg x y) = some (ob, v, σ', nx')) : Gives base Γ w σ id v σ' nx' ((execOp ρ o).run P w) := by
  have hrx := hev x
  have hry := hev y
  simp only [xop] at hx
  split at hx
  · rename_i a b ha hb
    rw [ha] at hrx
    rw [hb] at hry
    have hp : ρ x = .string a := by
      generalize ρ x = u at hrx ⊢
      cases hrx with | c _ _ h => exact repC_str h
    have hq : ρ y = .string b := by
      generalize ρ y = u at hry ⊢
      cases hry with | c _ _ h => exact repC_str h
    have hbb : (a.toList == b.toList) = decide (a.data.toList = b.data.toList) := by
      rw [ByteArray.toList_eq, ByteArray.toList_eq, Bool.eq_iff_iff, beq_iff_eq, decide_eq_true_eq]
    cases neg with
    | true =>
      simp only [Option.some.injEq, Prod.mk.injEq] at hx; obtain ⟨_, rfl, rfl, rfl⟩ := hx
      simp only [if_true] at hop
      subst hop
      refine Gives.same hst (u := .bool (!decide (a.data.toList = b.data.toList))) ?_ (rep_bool _)
      simp only [execOp, ho, Sem.run_bind, hp, hq, eqGuard_at_string, Sem.run_pure, Result.andThen_ok, binOp, Op.stringOp, hbb]
    | false =>
      simp only [Option.some.injEq, Prod.mk.injEq] at hx; obtain ⟨_, rfl, rfl, rfl⟩ := hx
      simp only [Bool.false_eq_true, if_false] at hop
      subst hop
      refine Gives.same hst (u := .bool (decide (a.data.toList = b.data.toList))) ?_ (rep_bool _)
      simp only [execOp, ho, Sem.run_bind, hp, hq, eqGuard_at_string, Sem.run_pure, Result.andThen_ok, binOp, Op.stringOp, hbb]
  · cases hx
theorem repC_int {k : IntKind} {a : Int} {u : Value} (h : RepC Γ w (.d (.v (.int k a))) u) : u = .int k a := by
  generalize hd : D.v (.int k a) = d at h
  cases (show RepD Γ.I w d u from h) <;> first | cases hd
  rfl
inductive SameK : Bool → Value → Value → Bool → Prop
  | int (k : IntKind) (a b : Int) : SameK false (.int k a) (.int k b) (decide (a = b))
  | bool (a b : Bool) : SameK true (.bool a) (.bool b) (a == b)
inductive CellsK : List Bool → List C → List C → List Bool → Prop
  | nil : CellsK [] [] [] []
  | cons {k b : Bool} {x y : C} {ks bs : List Bool} {xs ys : List C} (h : ∀ (Γ : Cx) (w : World) (u v : Value), RepC Γ w x u → RepC Γ w y v → SameK k u v b) (t : CellsK ks xs ys bs) : CellsK (k :: ks) (x :: xs) (y :: ys) (b :: bs)
theorem cb_rep {c : C} {b : Bool} (h : cb c = some b) {Γ : Cx} {w : World} {u : Value} (hr : RepC Γ w c u) : u = .bool b := by
  unfold cb at h
  split at h <;> cases h
  · exact hr
  · exact hr
  · exact RepV.bool (.c _ _ hr)
theorem samek_int {k k' : IntKind} {a b : Int} (hk : ksame k k' = true) (Γ : Cx) (w : World) (u v : Value) (h1 : RepC Γ w (.d (.v (.int k a))) u) (h2 : RepC Γ w (.d (.v (.int k' b))) v) : SameK false u v (decide (a = b)) := by
  have hk := ksame_eq hk
  subst hk
  rw [repC_int h1, repC_int h2]; exact .int _ _ _
theorem samek_bool {x y : C} {a b : Bool} (h1 : cb x = some a) (h2 : cb y = some b) (Γ : Cx) (w : World) (u v : Value) (hx : RepC Γ w x u) (hy : RepC Γ w y v) : SameK true u v (a == b) := by
  rw [cb_rep h1 hx, cb_rep h2 hy]; exact .bool _ _
theorem eqR_inv {R : Type} : ∀ (ks : List Bool) (xs ys : List C) (acc : Bool) (q : Bool → Option R) (r : R), eqR ks xs ys acc q = some r → ∃ bs, CellsK ks xs ys bs ∧ q (bs.foldl (· && ·) acc) = some r := by
  intro ks xs ys acc q r
  fun_induction eqR ks xs ys acc q with
  | case1 acc q => intro h; exact ⟨[], .nil, h⟩
  | case2 acc q ks k a xs k' b ys hk ih =>
    intro h
    obtain ⟨bs, h1, h2⟩ := ih h
    exact ⟨_ :: bs, .cons (samek_int hk) h1, h2⟩
  | case4 =>
    rename_i ih
    intro h
    obtain ⟨bs, h1, h2⟩ := ih h
    exact ⟨_ :: bs, .cons (samek_bool (by assumption) (by assumption)) h1, h2⟩
  | _ => intro h; cases h
theorem eqC_inv {R : Type} {ks : List Bool} {xs ys : List C} {q : Bool → Option R} {r : R} (h : eqC ks xs ys q = some r) : ∃ bs, CellsK ks xs ys bs ∧ q (bs.foldl (· && ·) true) = some r := by
  unfold eqC at h
  split at h
  · split at h
    · rename_i hk
      obtain ⟨bs, h1, h2⟩ := eqR_inv _ _ _ _ _ _ h
      exact ⟨_ :: bs, .cons (samek_int hk) h1, by simpa using h2⟩
    · cases h
  · split at h
    · rename_i ha hb
      obtain ⟨bs, h1, h2⟩ := eqR_inv _ _ _ _ _ _ h
      exact ⟨_ :: bs, .cons (samek_bool ha hb) h1, by simpa using h2⟩
    · cases h
  · cases h
def ValsK : List Bool → Array Value → Array Value → Nat → List Bool → Prop
  | [], _, _, _, bs => bs = []
  | k :: ks, us, vs, i, bs => ∃ u v b bs', us[i]? = some u ∧ vs[i]? = some v ∧ SameK k u v b ∧ bs = b :: bs' ∧ ValsK ks us vs (i + 1) bs'
theorem ValsK.app {us vs : Array Value} : ∀ {ks ks' : List Bool} {i : Nat} {bs : List Bool}, ValsK (ks ++ ks') us vs i bs → ∃ b1 b2, bs = b1 ++ b2 ∧ ValsK ks us vs i b1 ∧ ValsK ks' us vs (i + ks.length) b2
  | [], ks', i, bs, h => ⟨[], bs, rfl, rfl, h⟩
  | k :: ks, ks', i, bs, h => by
    obtain ⟨u, v, b, bs', h1, h2, h3, rfl, h4⟩ := h
    obtain ⟨b1, b2, rfl, h5, h6⟩ := ValsK.app h4
    exact ⟨b :: b1, b2, rfl, ⟨u, v, b, b1, h1, h2, h3, rfl, h5⟩, by rw [List.length_cons, show i + (ks.length + 1) = i + 1 + ks.length by omega]; exact h6⟩
theorem ValsK.part {us vs : Array Value} {o n : Nat} : ∀ {ks : List Bool} {i : Nat} {bs : List Bool}, i + ks.length ≤ n → ValsK ks us vs (o + i) bs → ValsK ks (us.extract o (o + n)) (vs.extract o (o + n)) i bs
  | [], i, bs, _, h => h
  | k :: ks, i, bs, hn, h => by
    obtain ⟨u, v, b, bs', h1, h2, h3, rfl, h4⟩ := h
    simp only [List.length_cons] at hn
    have e : ∀ (cs : Array Value) x, cs[o + i]? = some x → (cs.extract o (o + n))[i]? = some x := fun cs x hx => by
      have hlt : o + i < cs.size := (Array.getElem?_eq_some_iff.1 hx).1
      rw [Array.getElem?_extract, if_pos (by omega)]; exact hx
    exact ⟨u, v, b, bs', e us u h1, e vs v h2, h3, rfl, ValsK.part (by omega) h4⟩
theorem ValsK.of {Γ : Cx} {w : World} {us vs : Array Value} : ∀ {ks : List Bool} {xs ys : List C} {bs : List Bool} (i : Nat), CellsK ks xs ys bs → (∀ (j : Nat) c, xs[j]? = some c → ∃ u, us[i + j]? = some u ∧ RepC Γ w c u) → (∀ (j : Nat) c, ys[j]? = some c → ∃ u, vs[i + j]? = some u ∧ RepC Γ w c u) → ValsK ks us vs i bs
  | _, _, _, _, i, .nil, _, _ => rfl
  | _, _, _, _, i, .cons h t, hx, hy => by
    obtain ⟨u, hu, hr⟩ := hx 0 _ rfl
    obtain ⟨v, hv, hr'⟩ := hy 0 _ rfl
    exact ⟨u, v, _, _, hu, hv, h _ _ _ _ hr hr', rfl, ValsK.of (i + 1) t (fun j c hc => by
      have := hx (j + 1) c (by simpa using hc); rwa [show i + (j + 1) = i + 1 + j by omega] at this) (fun j c hc => by
      have := hy (j + 1) c (by simpa using hc); rwa [show i + (j + 1) = i + 1 + j by omega] at this)⟩
abbrev allB (bs : List Bool) : Bool := bs.foldl (· && ·) true
theorem foldl_and (bs : List Bool) : ∀ (a : Bool), bs.foldl (· && ·) a = (a && bs.foldl (· && ·) true) := by
  induction bs with
  | nil => intro a; simp
  | cons b bs ih => intro a; simp only [List.foldl_cons]; rw [ih (a && b), ih (true && b), Bool.true_and, Bool.and_assoc]
theorem allB_app (b1 b2 : List Bool) : allB (b1 ++ b2) = (allB b1 && allB b2) := by
  unfold allB; rw [List.foldl_append, foldl_and]
def EqF (P : Program) (w : World) (d : Nat) (t : TypeId) (ks : List Bool) : Prop :=
  ∀ (us vs : Array Value) (off : Nat) (bs : List Bool), ValsK ks us vs off bs → ∃ x y, (part t us off).run P w = .ok x w ∧ (part t vs off).run P w = .ok y w ∧ (Op.equalIn d t x y).run P w = .ok (allB bs) w
theorem run_eqFs {d : Nat} {f : TypeId → Option (List Bool)} (ih : ∀ t ks, f t = some ks → EqF P w d t ks) (us vs : Array Value) : ∀ (fs : List Field) (i : Nat) (ks bs : List Bool), flatFs f fs i = some ks → ValsK ks us vs i bs → (Op.eqFields d us vs fs).run P w = .ok (allB bs) w
  | [], i, ks, bs, h, hv => by
    simp only [flatFs, Option.some.injEq] at h
    subst h
    obtain rfl : bs = [] := hv
    simp [Op.eqFields]
  | g :: fs, i, ks, bs, h, hv => by
    simp only [flatFs] at h
    split at h
    · rename_i hc
      simp only [Bool.and_eq_true, bne_iff_ne, ne_eq, beq_iff_eq] at hc
      simp only [Option.bind_eq_bind, Option.bind_eq_some_iff, Option.some.injEq] at h
      obtain ⟨k1, hk1, k2, hk2, rfl⟩ := h
      obtain ⟨b1, b2, rfl, h1, h2⟩ := hv.app
      obtain ⟨x, y, p1, p2, p3⟩ := ih _ _ hk1 us vs i b1 h1
      have hr := run_eqFs ih us vs fs _ _ _ hk2 h2
      simp only [Op.eqFields, if_pos hc.1, hc.2, Sem.run_bind, p1, p2, p3, Result.andThen_ok, allB_app]
      cases allB b1
      · simp
      · simpa using hr
    · cases h
theorem run_eqIs {d : Nat} {e : TypeId} {ks : List Bool} (ih : EqF P w d e ks) (us vs : Array Value) (s : Nat) (hs : s = ks.length) : ∀ (n i : Nat) (bs : List Bool), ValsK (rep n ks) us vs (i * s) bs → (Op.eqItems d e s us vs (List.range' i n)).run P w = .ok (allB bs) w
  | 0, i, bs, hv => by
    obtain rfl : bs = [] := hv
    simp [Op.eqItems]
  | n + 1, i, bs, hv => by
    simp only [rep] at hv
    obtain ⟨b1, b2, rfl, h1, h2⟩ := hv.app
    obtain ⟨x, y, p1, p2, p3⟩ := ih us vs (i * s) b1 h1
    have hr := run_eqIs ih us vs s hs n (i + 1) b2 (by rw [Nat.add_mul, Nat.one_mul, hs]; rw [hs] at h2; exact h2)
    simp only [List.range'_succ, Op.eqItems, Sem.run_bind, p1, p2, p3, Result.andThen_ok, allB_app]
    cases allB b1
    · simp
    · simpa using hr
theorem part_one {t : TypeId} {us : Array Value} {off : Nat} {x : Value} (h : (isAgg t).run P w = .ok false w) (hx : us[off]? = some x) : (part t us off).run P w = .ok x w := by
  simp [part, h, hx]
theorem part_agg {t : TypeId} {us : Array Value} {off n : Nat} (h : (isAgg t).run P w = .ok true w) (hn : sizeT P t = some n) : (part t us off).run P w = .ok (.agg (us.extract off (off + n))) w := by
  simp [part, h, run_sizeT hn]
theorem rep_length {α : Type} (l : List α) : ∀ n, (rep n l).length = n * l.length
  | 0 => by simp [rep]
  | n + 1 => by simp only [rep, List.length_append, rep_length l n, Nat.add_mul, Nat.one_mul]; omega
theorem run_eqT (d : Nat) : ∀ (m : Nat) (t : TypeId) (ks : List Bool), flatT P m t = some ks → EqF P w (d + m) t ks
  | 0, t, ks, h => by simp [flatT] at h
  | m + 1, t, ks, h => by
    have ih := run_eqT d m
    intro us vs off bs hv
    unfold flatT at h
    split at h
    · rename_i q n hu hn
      split at h
      · cases h
        obtain ⟨u, v, b, bs', h1, h2, h3, rfl, rfl⟩ := hv
        have ha : (isAgg t).run P w = .ok false w := run_isAgg (by simp [aggT, hu])
        cases h3 with
        | int k a b =>
          refine ⟨_, _, part_one ha h1, part_one ha h2, ?_⟩
          rw [show d + (m + 1) = (d + m) + 1 from rfl, run_equalIn_int w (d + m) t k q a b hu]
          simp [allB]; rfl
      · cases h
    · rename_i n hu hn
      split at h
      · cases h
        obtain ⟨u, v, b, bs', h1, h2, h3, rfl, rfl⟩ := hv
        have ha : (isAgg t).run P w = .ok false w := run_isAgg (by simp [aggT, hu])
        cases h3 with
        | bool a b =>
          refine ⟨_, _, part_one ha h1, part_one ha h2, ?_⟩
          rw [show d + (m + 1) = (d + m) + 1 from rfl, run_equalIn_bool w (d + m) t a b hu]
          simp [allB]
      · cases h
    · rename_i fs n hu hn
      simp only [Option.bind_eq_bind, Option.bind_eq_some_iff] at h
      obtain ⟨k1, hk1, h⟩ := h
      split at h
      · rename_i hc
        cases h
        have ha : (isAgg t).run P w = .ok true w := run_isAgg (by simp [aggT, hu])
        refine ⟨_, _, part_agg ha hn, part_agg ha hn, ?_⟩
        have hfields : P.fieldsOf t = fs := by simp [Program.fieldsOf, hu]
        rw [show d + (m + 1) = (d + m) + 1 from rfl, run_equalIn_struct w (d + m) t _ _ (by rw [hfields]; exact hu) hc.2, hfields]
        exact run_eqFs ih _ _ _ 0 ks bs hk1 (ValsK.part (by omega) hv)
      · cases h
    · rename_i k e n hu hn
      simp only [Option.bind_eq_bind, Option.bind_eq_some_iff] at h
      obtain ⟨k1, hk1, h⟩ := h
      split at h
      · rename_i hc
        cases h
        have ha : (isAgg t).run P w = .ok true w := run_isAgg (by simp [aggT, hu])
        refine ⟨_, _, part_agg ha hn, part_agg ha hn, ?_⟩
        have hes : sizeT P e = some k1.length := flatT_size m e k1 hk1
        obtain ⟨i, hi⟩ : ∃ i, P.info? e = some i := by
          unfold sizeT at hes
          cases hq : P.info? e with
          | none => rw [hq] at hes; cases hes
          | some i => exact ⟨i, rfl⟩
        have hce : P.cellsOf e = k1.length := by
          unfold sizeT at hes; rw [hi] at hes; simp only [Option.map_some, Option.some.injEq] at hes
          simp [Program.cellsOf, hi, hes]
        rw [show d + (m + 1) = (d + m) + 1 from rfl, run_equalIn_array w (d + m) _ _ hu hi, hce, List.range_eq_range']
        refine run_eqIs (ih e k1 hk1) _ _ k1.length rfl k 0 bs ?_
        rw [Nat.zero_mul]
        exact ValsK.part (by rw [rep_length]; omega) hv
      · cases h
    · cases h
  where flatT_size : ∀ (m : Nat) (e : TypeId) (ks : List Bool), flatT P m e = some ks → sizeT P e = some ks.length
  | 0, _, _, h => by simp [flatT] at h
  | m + 1, e, ks, h => by
    unfold flatT at h
    split at h
    · rename_i hn; split at h
      · rename_i h1; cases h; rw [hn, h1]; rfl
      · cases h
    · rename_i hn; split at h
      · rename_i h1; cases h; rw [hn, h1]; rfl
      · cases h
    · rename_i hn
      simp only [Option.bind_eq_bind, Option.bind_eq_some_iff] at h
      obtain ⟨k1, hk1, h⟩ := h
      split at h
      · rename_i hc; cases h; rw [hn, hc.1]
      · cases h
    · rename_i hn
      simp only [Option.bind_eq_bind, Option.bind_eq_some_iff] at h
      obtain ⟨k1, hk1, h⟩ := h
      split at h
      · rename_i hc; cases h; rw [hn, hc, rep_length]
      · cases h
    · cases h
theorem op_eqA {neg : Bool} {op : BinOp} {t yt : TypeId} {x y : Operand} {ks : List Bool} (ho : o.op = .binOp op t x y yt) (hf : flatT P 8 t = some ks) (ha : aggT P t = some true) (hm : P.eqGuardType P.depth t = false)
    (hop : op = if neg then .neq else .eql) (hev : ∀ x, RepV Γ w (ev x) (ρ x)) (hst : StoreOk Γ w σ) (hx : xop ev σ id (.eqA neg ks x y) = some (ob, v, σ', nx')) : Gives base Γ w σ id v σ' nx' ((execOp ρ o).run P w) := by
  have h1 := hev x
  have h2 := hev y
  simp only [xop] at hx
  split at hx
  · rename_i xs ys hvx hvy
    rw [hvx] at h1; rw [hvy] at h2
    obtain ⟨bs, hK, hq⟩ := eqC_inv hx
    generalize hux : ρ x = ux at h1
    generalize huy : ρ y = uy at h2
    cases h1 with | agg _ us hu1 hr1 =>
    cases h2 with | agg _ vs hu2 hr2 =>
    have hlen : ∀ {ks xs ys bs}, CellsK ks xs ys bs → xs.length = ks.length ∧ ys.length = ks.length := fun h => by
      induction h with
      | nil => exact ⟨rfl, rfl⟩
      | cons _ _ ih => simp [ih.1, ih.2]
    obtain ⟨hl1, hl2⟩ := hlen hK
    have hV : ValsK ks us vs 0 bs := ValsK.of 0 hK (fun i c hc => by
        have hi : i < us.size := by rw [hu1]; exact (List.getElem?_eq_some_iff.1 hc).1
        exact ⟨us[i], by simp [hi], hr1 i c _ hc (by simp [hi])⟩) (fun i c hc => by
        have hi : i < vs.size := by rw [hu2]; exact (List.getElem?_eq_some_iff.1 hc).1
        exact ⟨vs[i], by simp [hi], hr2 i c _ hc (by simp [hi])⟩)
    obtain ⟨p, q, hp1, hp2, heq⟩ := run_eqT (P := P) (w := w) 9992 8 t ks hf us vs 0 bs hV
    have hsz := run_eqT.flatT_size (P := P) 8 t ks hf
    have hag : (isAgg t).run P w = .ok true w := run_isAgg ha
    have e1 : p = .agg us := by
      rw [part_agg hag hsz] at hp1; cases hp1
      simp only [Nat.zero_add, Value.agg.injEq]
      rw [show ks.length = us.size by omega]; simp
    have e2 : q = .agg vs := by
      rw [part_agg hag hsz] at hp2; cases hp2
      simp only [Nat.zero_add, Value.agg.injEq]
      rw [show ks.length = vs.size by omega]; simp
    subst e1; subst e2
    have heq : (Op.equalIn 10000 t (.agg us) (.agg vs)).run P w = .ok (allB bs) w := heq
    cases neg with
    | true =>
      simp only [Option.some.injEq, Prod.mk.injEq] at hq; obtain ⟨_, rfl, rfl, rfl⟩ := hq
      simp only [if_true] at hop
      subst hop
      refine Gives.same hst (u := .bool (!allB bs)) ?_ (rep_bool _)
      simp only [execOp, ho, Sem.run_bind, hux, huy, run_eqGuard_agg w .neq t x y us vs hm, Result.andThen_ok, run_neq_struct, heq, Sem.run_pure]
    | false =>
      simp only [Option.some.injEq, Prod.mk.injEq] at hq; obtain ⟨_, rfl, rfl, rfl⟩ := hq
      simp only [Bool.false_eq_true, if_false] at hop
      subst hop
      refine Gives.same hst (u := .bool (allB bs)) ?_ (rep_bool _)
      simp only [execOp, ho, Sem.run_bind, hux, huy, run_eqGuard_agg w .eql t x y us vs hm, Result.andThen_ok, run_eql_struct, heq, Sem.run_pure]
  · cases hx
theorem slice_rep {s n c : Nat} {f : Nat → List D} {A : Option Addr} (hr : RepD Γ.I w (.sl s n f) (.slice A n c)) (hnc : n ≤ c) (l h : Nat) (hlh : l ≤ h) (hhn : h ≤ n) :
    RepD Γ.I w (.sl s (h - l) fun i => f (l + i)) (.slice (if c = l then A else A.map (·.add (l * s))) (h - l) (c - l)) := by
  by_cases h0 : h = l
  · subst h0; rw [Nat.sub_self]; exact .slE _ _ _ _
  · rw [if_neg (by omega)]
    cases hr with
    | slE => omega
    | sl s n f ad c U hn hI hs hc hrr =>
      refine .sl _ _ _ _ _ (fun i j => U (l + i) j) (by omega) (by rw [block_add]; exact hI) (fun i hi => hs _ (by omega)) (fun i j d hi hd => ?_) (fun i j d hi hd => hrr _ _ d (by omega) hd)
      rw [add_add, ← Nat.add_assoc, ← Nat.add_mul]
      exact hc _ _ d (by omega) hd
theorem sl_form {s n : Nat} {f : Nat → List D} {u : Value} (hr : RepD Γ.I w (.sl s n f) u) : ∃ A c, u = .slice A n c ∧ n ≤ c := by
  cases hr with
  | slE s f A c => exact ⟨A, c, rfl, Nat.zero_le _⟩
  | sl s n f ad c U hn => exact ⟨_, c, rfl, hn⟩
theorem repV_nil {u : Value} (hr : RepV Γ w (.c (.d (.v (.slice none 0 0)))) u) : u = .slice none 0 0 := by
  cases hr with | c _ _ hr =>
  generalize hq : D.v (.slice none 0 0) = d at hr
  cases (show RepD Γ.I w d u from hr) <;> first | cases hq
  rfl
theorem op_slc {t e : TypeId} {x : Operand} {lo hi : Option Operand} {s : Nat} (ho : o.op = .slice t x lo hi none) (hu : P.underlying t = some (.slice e)) (hn : sizeT P e = some s)
    (hev : ∀ x, RepV Γ w (ev x) (ρ x)) (hst : StoreOk Γ w σ) (hid : Γ.ρ id = none) (hbase : base ≤ id) (hx : xop ev σ id (.slc s x lo hi) = some (ob, v, σ', nx')) (hob : ob) : Gives base Γ w σ id v σ' nx' ((execOp ρ o).run P w) := by
  have hr := hev x
  have hbound : ∀ k (i : Int) (y : Nat) code, 0 ≤ i → i ≤ y → (Instr.sliceBound (.int k i) y code).run P w = .ok i.toNat w := fun k i y code h0 h1 => by
    simp only [Instr.sliceBound, asIntOf, Sem.run_bind, Sem.run_pure, Result.andThen_ok]
    rw [if_pos ⟨h0, h1⟩]; rfl
  simp only [xop] at hx
  split at hx
  · rename_i s' n f hv
    rw [hv] at hr
    split at hx
    · rename_i hs
      have hs := Nat.eq_of_beq_eq_true hs
      subst hs
      cases hr with | c _ u hr =>
      obtain ⟨A, c, hux, hnc⟩ := sl_form hr
      have hr' : RepD Γ.I w (.sl s n f) (ρ x) := hr
      rw [hux] at hr'
      have main : ∀ (l h : Nat), l ≤ h → h ≤ n → (Instr.sliceBounds true n c (lo.map ρ) (hi.map ρ) none).run P w = .ok (l, h, c) w →
          ∃ u, (execOp ρ o).run P w = .ok (.value u) w ∧ RepD Γ.I w (.sl s (h - l) fun i => f (l + i)) u := by
        intro l h hlh hhn hb
        refine ⟨_, ?_, slice_rep hr' hnc l h hlh hhn⟩
        simp only [execOp, ho, Sem.run_bind, Instr.sliceAt, run_underlying hu, Result.andThen_ok, Instr.slice, hux, Option.map_none, hb, run_sizeT hn, Sem.run_pure]
      split at hx
      · -- the whole
        simp only [Option.some.injEq, Prod.mk.injEq] at hx; obtain ⟨_, rfl, rfl, rfl⟩ := hx
        obtain ⟨u, h1, h2⟩ := main 0 n (Nat.zero_le _) (Nat.le_refl _) (by simp [Instr.sliceBounds])
        refine Gives.same hst h1 (.c _ _ ?_)
        simp only [Nat.zero_add, Nat.sub_zero] at h2; exact h2
      · rename_i hop
        split at hx
        · rename_i k h hvh
          simp only [Option.some.injEq, Prod.mk.injEq] at hx; obtain ⟨rfl, rfl, rfl, rfl⟩ := hx
          have hrh := hev hop
          rw [hvh] at hrh
          have hb := hbound k h c .sliceAcap hob.1 (by omega)
          have hrun : (Instr.sliceBounds true n c none (some (ρ hop)) none).run P w = .ok (0, h.toNat, c) w := by
            simp [Instr.sliceBounds, hrh.int, hb]
          obtain ⟨u, h1, h2⟩ := main 0 h.toNat (Nat.zero_le _) (by omega) hrun
          refine Gives.same hst h1 (.c _ _ ?_)
          simp only [Nat.zero_add, Nat.sub_zero] at h2; exact h2
        · cases hx
      · rename_i lop
        split at hx
        · rename_i k l hvl
          simp only [Option.some.injEq, Prod.mk.injEq] at hx; obtain ⟨rfl, rfl, rfl, rfl⟩ := hx
          have hrl := hev lop
          rw [hvl] at hrl
          have hb := hbound k l n .sliceB hob.1 hob.2
          have hrun : (Instr.sliceBounds true n c (some (ρ lop)) none none).run P w = .ok (l.toNat, n, c) w := by
            simp [Instr.sliceBounds, hrl.int, hb]
          obtain ⟨u, h1, h2⟩ := main l.toNat n (by omega) (Nat.le_refl _) hrun
          exact Gives.same hst h1 (.c _ _ h2)
        · cases hx
      · rename_i lop hop
        split at hx
        · rename_i k l k' h hvl hvh
          simp only [Option.some.injEq, Prod.mk.injEq] at hx; obtain ⟨rfl, rfl, rfl, rfl⟩ := hx
          have hrl := hev lop
          have hrh := hev hop
          rw [hvl] at hrl; rw [hvh] at hrh
          obtain ⟨o1, o2, o3⟩ := hob
          have hb1 := hbound k' h c .sliceAcap (by omega) (by omega)
          have hb2 := hbound k l h.toNat .sliceB o1 (by omega)
          have hrun : (Instr.sliceBounds true n c (some (ρ lop)) (some (ρ hop)) none).run P w = .ok (l.toNat, h.toNat, c) w := by
            simp [Instr.sliceBounds, hrl.int, hrh.int, hb1, hb2]
          obtain ⟨u, h1, h2⟩ := main l.toNat h.toNat (by omega) (by omega) hrun
          exact Gives.same hst h1 (.c _ _ h2)
        · cases hx
    · cases hx
  · rename_i i n hv
    rw [hv] at hr
    split at hx
    · rename_i hop
      split at hx
      · rename_i k h hvh
        have hrh := hev hop
        rw [hvh] at hrh
        split at hx
        · rename_i e' s' m f hg
          split at hx
          · rename_i hs
            have hs := Nat.eq_of_beq_eq_true hs
            subst hs
            rw [frs_eq] at hx
            simp only [Option.some.injEq, Prod.mk.injEq] at hx; obtain ⟨rfl, rfl, rfl, rfl⟩ := hx
            obtain ⟨o1, o2, o3⟩ := hob
            cases hr with | c _ u hr =>
            obtain ⟨b0, hb0, hux⟩ := hr
            obtain ⟨b1, hb1, hok⟩ := hst.ok i _ hg
            rw [hb0] at hb1; cases hb1
            rcases hux with ⟨rfl, hκ, hux⟩ | ⟨cap, hκ, hux⟩
            · have hnB : ¬ HasB Γ i (.row e' s m f false) := fun ⟨c, hc⟩ => by rw [hκ] at hc; cases hc
              have hm := hst.moved (base := base) (w' := w) (b := 0) (κ := none) (e := .row e' s h.toNat f false) hg hid hbase rfl rfl rfl (Nat.le_refl _) (fun _ _ _ => rfl) (.inr hnB) (.inr (.inr (fun ⟨_, c, hc⟩ => by rw [upd_κ_same] at hc; cases hc))) (.inl ⟨upd_κ_same, by omega⟩)
              refine ⟨.slice none 0 0, _, _, .inl ?_, .c _ _ ⟨_, upd_ρ_same, .inl ⟨by omega, upd_κ_same, rfl⟩⟩, hm.1, CxLe.upd _ _ _ hid, hm.2, fun i hi => upd_ρ hi, .inr rfl⟩
              have hb := hbound k h 0 .sliceAcap o1 (by omega)
              have h0 : h.toNat = 0 := by omega
              rw [h0] at hb
              simp [execOp, ho, Instr.sliceAt, run_underlying hu, Instr.slice, hux, Instr.sliceBounds, hrh.int, hb, run_sizeT hn]
            · rcases hok with ⟨h1, _⟩ | ⟨cap', hk1, _, hnI, hncap, hcm, hfl, xs, hh, hxs, hcells⟩
              · rw [hκ] at h1; cases h1
              · rw [hκ] at hk1; cases hk1
                have hnI := hnI rfl
                have hlive : LiveE Γ i (.row e' s m f false) := ⟨rfl, cap, hκ⟩
                have he : EntOk (Γ.upd id b0 (some cap)) w id b0 (.row e' s h.toNat f false) :=
                  .inr ⟨cap, upd_κ_same, (fun hf => by cases hf), fun _ => hnI, by omega, hcm, fun i hi => hfl i (by omega), xs, hh, hxs, fun i j d hi hd => hcells i j d (by omega) hd⟩
                have hm := hst.moved (base := base) (w' := w) (b := b0) (κ := some cap) hg hid hbase rfl rfl rfl (Nat.le_refl _) (fun _ _ _ => rfl) (.inl hlive) (.inl ⟨hb0, cap, hκ⟩) he
                refine ⟨.slice (some ⟨b0, 0, none⟩) h.toNat cap, _, _, .inl ?_, .c _ _ ⟨_, upd_ρ_same, .inr ⟨cap, upd_κ_same, rfl⟩⟩, hm.1, CxLe.upd _ _ _ hid, hm.2, fun i hi => upd_ρ hi, .inr rfl⟩
                have hb := hbound k h cap .sliceAcap o1 (by omega)
                simp [execOp, ho, Instr.sliceAt, run_underlying hu, Instr.slice, hux, Instr.sliceBounds, hrh.int, hb, run_sizeT hn, Addr.add]
          · cases hx
        · cases hx
      · cases hx
    · cases hx
  · rename_i hv
    rw [hv] at hr
    have hux : ρ x = .slice none 0 0 := repV_nil hr
    split at hx
    · rename_i hop
      split at hx
      · rename_i k h hvh
        have hrh := hev hop
        rw [hvh] at hrh
        simp only [Option.some.injEq, Prod.mk.injEq] at hx; obtain ⟨rfl, rfl, rfl, rfl⟩ := hx
        have h0 : h = 0 := hob
        subst h0
        have hb := hbound k 0 0 .sliceAcap (Int.le_refl _) (Int.le_refl _)
        refine Gives.same hst (u := .slice none 0 0) ?_ (rep_exact rfl)
        simp [execOp, ho, Instr.sliceAt, run_underlying hu, Instr.slice, hux, Instr.sliceBounds, hrh.int, hb, run_sizeT hn]
      · cases hx
    · cases hx
  · cases hx
theorem rep_cap {I : Nat → Prop} {w : World} {s n c : Nat} {f : Nat → List D} {A : Option Addr} (h0 : ¬ n = 0) (h : RepD I w (.sl s n f) (.slice A n c)) : RepD I w (.sl s n f) (.slice A n n) := by
  cases h with
  | slE => exact absurd rfl h0
  | sl _ _ _ ad c' U hn' hI hs hc hr => exact .sl _ _ _ _ _ U (Nat.le_refl _) hI hs hc hr
theorem op_clip {t e : TypeId} {x h m : Operand} {s : Nat} (ho : o.op = .slice t x none (some h) (some m)) (hu : P.underlying t = some (.slice e)) (hn : sizeT P e = some s)
    (hev : ∀ x, RepV Γ w (ev x) (ρ x)) (hst : StoreOk Γ w σ) (hx : xop ev σ id (.clip s x h m) = some (ob, v, σ', nx')) (hob : ob) : Gives base Γ w σ id v σ' nx' ((execOp ρ o).run P w) := by
  have hr := hev x
  have hrh := hev h
  have hrm := hev m
  have hbound : ∀ k (i : Int) (y : Nat) code, 0 ≤ i → i ≤ y → (Instr.sliceBound (.int k i) y code).run P w = .ok i.toNat w := fun k i y code h0 h1 => by
    simp only [Instr.sliceBound, asIntOf, Sem.run_bind, Sem.run_pure, Result.andThen_ok]
    rw [if_pos ⟨h0, h1⟩]; rfl
  simp only [xop] at hx
  split at hx
  · rename_i s' n f k a k' b hv hvh hvm
    rw [hv] at hr; rw [hvh] at hrh; rw [hvm] at hrm
    split at hx
    · rename_i hs
      have hs := Nat.eq_of_beq_eq_true hs
      subst hs
      simp only [Option.some.injEq, Prod.mk.injEq] at hx; obtain ⟨rfl, rfl, rfl, rfl⟩ := hx
      obtain ⟨rfl, o1, o2⟩ := hob
      cases hr with | c _ u hr =>
      obtain ⟨A, c, hux, hnc⟩ := sl_form hr
      have hr' : RepD Γ.I w (.sl s n f) (ρ x) := hr
      rw [hux] at hr'
      have hb1 := hbound k' a c .slice3Acap o1 (by omega)
      have hb2 := hbound k a a.toNat .slice3B o1 (by omega)
      have hrun : (execOp ρ o).run P w = .ok (.value (.slice (if a.toNat = 0 then A else A.map (·.add 0)) a.toNat a.toNat)) w := by
        simp [execOp, ho, Instr.sliceAt, run_underlying hu, Instr.slice, hux, Instr.sliceBounds, hrh.int, hrm.int, hb1, hb2, run_sizeT hn]
      refine Gives.same hst hrun (.c _ _ ⟨⟨_, rfl⟩, ?_⟩)
      have h2 := slice_rep hr' hnc 0 a.toNat (Nat.zero_le _) (by omega)
      simp only [Nat.zero_add, Nat.sub_zero, Nat.zero_mul] at h2
      by_cases h0 : a.toNat = 0
      · rw [h0]; exact .slE _ _ _ _
      · rw [if_neg h0]
        rw [if_neg (by omega)] at h2
        exact rep_cap h0 h2
    · cases hx
  · cases hx
theorem op_slc3 {t e : TypeId} {x l h m : Operand} {s : Nat} (ho : o.op = .slice t x (some l) (some h) (some m)) (hu : P.underlying t = some (.slice e)) (hn : sizeT P e = some s)
    (hev : ∀ x, RepV Γ w (ev x) (ρ x)) (hst : StoreOk Γ w σ) (hx : xop ev σ id (.slc3 s x l h m) = some (ob, v, σ', nx')) (hob : ob) : Gives base Γ w σ id v σ' nx' ((execOp ρ o).run P w) := by
  have hr := hev x
  have hrl := hev l
  have hrh := hev h
  have hrm := hev m
  have hbound : ∀ k (i : Int) (y : Nat) code, 0 ≤ i → i ≤ y → (Instr.sliceBound (.int k i) y code).run P w = .ok i.toNat w := fun k i y code h0 h1 => by
    simp only [Instr.sliceBound, asIntOf, Sem.run_bind, Sem.run_pure, Result.andThen_ok]
    rw [if_pos ⟨h0, h1⟩]; rfl
  simp only [xop] at hx
  split at hx
  · rename_i s' n f kc c0 k a k' b hv hvl hvh hvm
    rw [hv] at hr; rw [hvl] at hrl; rw [hvh] at hrh; rw [hvm] at hrm
    split at hx
    · rename_i hs
      have hs := Nat.eq_of_beq_eq_true hs
      subst hs
      simp only [Option.some.injEq, Prod.mk.injEq] at hx; obtain ⟨rfl, rfl, rfl, rfl⟩ := hx
      obtain ⟨rfl, o0, o1, o2⟩ := hob
      cases hr with | c _ u hr =>
      obtain ⟨A, c, hux, hnc⟩ := sl_form hr
      have hr' : RepD Γ.I w (.sl s n f) (ρ x) := hr
      rw [hux] at hr'
      have hb1 := hbound k' a c .slice3Acap (by omega) (by omega)
      have hb2 := hbound k a a.toNat .slice3B (by omega) (by omega)
      have hb3 := hbound kc c0 a.toNat .slice3C (by omega) (by omega)
      have h2 := slice_rep hr' hnc c0.toNat a.toNat (by omega) (by omega)
      have hrun : (execOp ρ o).run P w = .ok (.value (.slice (if a.toNat = c0.toNat then A else A.map (·.add (c0.toNat * s))) (a.toNat - c0.toNat) (a.toNat - c0.toNat))) w := by
        simp [execOp, ho, Instr.sliceAt, run_underlying hu, Instr.slice, hux, Instr.sliceBounds, hrl.int, hrh.int, hrm.int, hb1, hb2, hb3, run_sizeT hn]
      refine Gives.same hst hrun (.c _ _ ?_)
      by_cases h0 : a.toNat = c0.toNat
      · rw [h0, Nat.sub_self]; exact .slE _ _ _ _
      · rw [if_neg h0]
        rw [if_neg (by omega)] at h2
        exact rep_cap (by omega) h2
    · cases hx
  · cases hx
theorem op_cap {x : Operand} {t e : TypeId} {c : Call} (ho : o.op = .call c) (hc : c.callee = .builtin .cap) (hargs : c.args.toList = [x]) (htys : c.argTypes.toList = [t])
    (ht : P.underlying t = some (.slice e)) (hev : ∀ x, RepV Γ w (ev x) (ρ x)) (hst : StoreOk Γ w σ)
    (hx : xop ev σ id (.cap x) = some (ob, v, σ', nx')) : Gives base Γ w σ id v σ' nx' ((execOp ρ o).run P w) := by
  have hr := hev x
  have hargs' : c.args = #[x] := by rw [← Array.toArray_toList (xs := c.args), hargs]
  have htys' : c.argTypes = #[t] := by rw [← Array.toArray_toList (xs := c.argTypes), htys]
  have hrun : ∀ A n k, ρ x = .slice A n k → (execOp ρ o).run P w = .ok (.value (.int .i64 k)) w := fun A n k h => by
    simp [execOp, ho, resolve, hc, hargs', htys', invoke, builtin, Builtin.cap_, run_underlying ht, h, goInt]
  simp only [xop] at hx
  split at hx
  · rename_i hv
    rw [hv] at hr
    simp only [Option.some.injEq, Prod.mk.injEq] at hx; obtain ⟨_, rfl, rfl, rfl⟩ := hx
    have hu : ρ x = .slice none 0 0 := repV_nil hr
    exact Gives.same hst (hrun _ _ _ hu) (rep_int _ _)
  · rename_i s n f hv
    rw [hv] at hr
    simp only [Option.some.injEq, Prod.mk.injEq] at hx; obtain ⟨_, rfl, rfl, rfl⟩ := hx
    cases hr with | c _ _ hr =>
    obtain ⟨⟨A, hu⟩, _⟩ := hr
    exact Gives.same hst (hrun _ _ _ hu) (rep_int _ _)
  · cases hx
end
end Go.Pw
set_option linter.unusedVariables false
namespace Go.Pw
open Go Go.RowKit
section
variable {P : Program} {base : Nat} {Γ : Cx} {w : World} {σ σ' : Store} {id nx' : Nat} {o : Oper} {ρ : Operand → Value} {ev : Operand → V} {ob : Prop} {v : V}
theorem rowsOf_some {R : Type} {s : Nat} : ∀ (xs : List Operand) (k : List (List D) → Option R) (r : R), rowsOf ev s xs k = some r →
    ∃ rs, rs.length = xs.length ∧ (∀ (i : Nat) x row, xs[i]? = some x → rs[i]? = some row → ∃ l, vcells (ev x) = some l ∧ l.length = s ∧ row.length = s ∧ ∀ (j : Nat) c d, l[j]? = some c → row[j]? = some d → toD c = some d) ∧ k rs = some r
  | [], k, r, h => ⟨[], rfl, by simp, h⟩
  | x :: xs, k, r, h => by
    simp only [rowsOf] at h
    split at h
    · rename_i l hl
      split at h
      · rename_i hs
        have hs := Nat.eq_of_beq_eq_true hs
        obtain ⟨ds, h1, h2, h3⟩ := toDs_some _ _ _ h
        obtain ⟨rs, h4, h5, h6⟩ := rowsOf_some xs _ r h3
        refine ⟨ds :: rs, by simp [h4], fun i y row hy hrow => ?_, h6⟩
        cases i with
        | zero => simp at hy hrow; subst hy; subst hrow; exact ⟨l, hl, hs, by rw [h1, hs], h2⟩
        | succ i => exact h5 i y row (by simpa using hy) (by simpa using hrow)
      · cases h
    · cases h
theorem inOrder_get : ∀ (ps : List (Nat × Operand)) (k : Nat) (xs : List Operand), inOrder ps k = some xs → xs.length = ps.length ∧ ∀ (i : Nat) q, ps[i]? = some q → q.1 = k + i ∧ xs[i]? = some q.2
  | [], k, xs, h => by simp [inOrder] at h; subst h; exact ⟨rfl, by simp⟩
  | (i, x) :: ps, k, xs, h => by
    simp only [inOrder] at h
    split at h
    · rename_i hik
      obtain ⟨ys, hys, rfl⟩ := Option.map_eq_some_iff.1 h
      obtain ⟨h1, h2⟩ := inOrder_get ps (k + 1) ys hys
      refine ⟨by simp [h1], fun j q hq => ?_⟩
      cases j with
      | zero => simp at hq; subst hq; exact ⟨hik, rfl⟩
      | succ j =>
        obtain ⟨h3, h4⟩ := h2 j q (by simpa using hq)
        exact ⟨by omega, by simpa using h4⟩
    · cases h
theorem fill_rows {s : Nat} : ∀ (ps : List (Nat × Value)) (k : Nat) (us : Array Value), (∀ (i : Nat) q, ps[i]? = some q → q.1 = k + i ∧ q.2.cells.size = s) → (k + ps.length) * s ≤ us.size →
    ∃ us', Instr.fill (fun i => some (i * s, s)) us ps = some us' ∧ us'.size = us.size ∧ (∀ q, q < k * s → us'[q]? = us[q]?) ∧
      ∀ (i j : Nat) q, ps[i]? = some q → j < s → us'[(k + i) * s + j]? = q.2.cells[j]?
  | [], k, us, _, _ => ⟨us, rfl, rfl, fun _ _ => rfl, by simp⟩
  | (i, v) :: ps, k, us, hp, hl => by
    obtain ⟨hi, hv⟩ := hp 0 _ rfl
    simp only [Nat.add_zero] at hi hv
    subst hi
    have hk1 : (i + 1) * s ≤ us.size := Nat.le_trans (Nat.mul_le_mul_right _ (by simp)) hl
    have hk2 : i * s + s ≤ us.size := by rw [Nat.add_mul, Nat.one_mul] at hk1; exact hk1
    have harr : v.cells.zipIdx.foldl (fun cs (c, j) => cs.setIfInBounds (i * s + j) c) us = (v.cells.toList.zipIdx (i * s)).foldl (fun cs (c, j) => cs.setIfInBounds j c) us := by
      rw [← Array.foldl_toList, Array.toList_zipIdx, fold_set]; simp
    have hlen : v.cells.toList.length = s := by simpa using hv
    obtain ⟨us', h1, h2, h3, h4⟩ := fill_rows ps (i + 1) ((v.cells.toList.zipIdx (i * s)).foldl (fun cs (c, j) => cs.setIfInBounds j c) us) (fun j q hq => by
        obtain ⟨h5, h6⟩ := hp (j + 1) q (by simpa using hq); exact ⟨by omega, h6⟩) (by rw [fold_set_size]; simpa [Nat.add_assoc, Nat.add_comm 1] using hl)
    refine ⟨us', ?_, by rw [h2, fold_set_size], fun q hq => ?_, fun j jj q hq hj => ?_⟩
    · simp only [Instr.fill]
      rw [if_neg (by simp; constructor <;> omega), harr]
      exact h1
    · rw [h3 q (by rw [Nat.add_mul]; omega), fold_set_get _ _ _ _ (by rw [hlen]; omega), if_neg (by omega)]
    · cases j with
      | zero =>
        simp at hq; subst hq
        rw [Nat.add_zero, h3 _ (by rw [Nat.add_mul]; omega), fold_set_get _ _ _ _ (by rw [hlen]; omega), if_pos (by rw [hlen]; omega)]
        simp
      | succ j =>
        have := h4 j jj q (by simpa using hq) hj
        rw [show i + 1 + j = i + (j + 1) by omega] at this
        exact this
theorem div_lt_of {q m s : Nat} (hs : 0 < s) (h : q < m * s) : q / s < m := by
  rw [Nat.div_lt_iff_lt_mul hs]; exact h
theorem op_lit {own : Bool} {t e : TypeId} {len s : Nat} {parts : Array (Nat × Operand)} {z : List Value} {xs : List Operand} (ho : o.op = .buildSlice t len parts) (hu : P.underlying t = some (.slice e)) (hn : sizeT P e = some s) (hz : zeroOf P e = some z)
    (hord : inOrder parts.toList 0 = some xs) (hlen : xs.length = len) (hbig : len * s ≤ 16777216) (hs0 : 0 < s)
    (hev : ∀ x, RepV Γ w (ev x) (ρ x)) (hst : StoreOk Γ w σ) (hid : Γ.ρ id = none) (hbase : base ≤ id) (hx : xop ev σ id (.lit own e s xs) = some (ob, v, σ', nx')) : Gives base Γ w σ id v σ' nx' ((execOp ρ o).run P w) := by
  obtain ⟨i, zv, hi, hzv, hzc, h1, hsz⟩ := zeroOf_spec hz
  simp only [xop] at hx
  obtain ⟨rs, hrl, hrow, hk⟩ := rowsOf_some _ _ _ hx
  obtain ⟨hol, hoget⟩ := inOrder_get _ _ _ hord
  have hps : ∀ (j : Nat) q, (parts.toList.map fun (i, x) => (i, ρ x))[j]? = some q → q.1 = 0 + j ∧ q.2.cells.size = s := fun j q hq => by
    simp only [List.getElem?_map, Option.map_eq_some_iff] at hq
    obtain ⟨⟨i, x⟩, hp, rfl⟩ := hq
    obtain ⟨h3, h4⟩ := hoget j _ hp
    have hjl : j < rs.length := by rw [hrl]; exact (List.getElem?_eq_some_iff.1 h4).1
    obtain ⟨l, hl, hls, _⟩ := hrow j x rs[j] h4 (List.getElem?_eq_getElem hjl)
    exact ⟨h3, by rw [((hev x).cells hl).1, hls]⟩
  have hplen : (parts.toList.map fun (i, x) => (i, ρ x)).length = len := by simp only [List.length_map]; rw [← hol, hlen]
  obtain ⟨us', hf1, hf2, _, hf4⟩ := fill_rows (s := s) (parts.toList.map fun (i, x) => (i, ρ x)) 0 ((Array.range (len * s)).map ((if len * s = 0 then #[] else zv.cells)[· % (if len * s = 0 then #[] else zv.cells).size]!)) hps (by simp only [Nat.zero_add, hplen]; simp)
  have hus : us'.size = len * s := by rw [hf2]; simp
  have hrun : (execOp ρ o).run P w = .ok (.value (.slice (some ⟨w.heap.size, 0, none⟩) len len)) (w.alloc (.cells us' e)) := by
    have hparts : (parts.map fun (i, x) => (i, ρ x)).toList = parts.toList.map fun (i, x) => (i, ρ x) := by simp
    simp only [execOp, ho, Instr.buildSlice, Sem.run_bind, run_underlying hu, Result.andThen_ok, run_sizeT hn]
    rw [if_neg (by omega)]
    by_cases h0 : len * s = 0
    · rw [if_pos h0] at hf1
      rw [if_pos h0]
      simp only [Sem.run_bind, Sem.run_pure, Result.andThen_ok, hparts, hf1, newRow, run_newObj, World.alloc_eq]
    · rw [if_neg h0] at hf1
      rw [if_neg h0]
      simp only [Sem.run_bind, Sem.run_pure, Result.andThen_ok, run_zeroValue' hi hzv, hparts, hf1, newRow, run_newObj, World.alloc_eq]
  -- the rows' cells
  have hcell : ∀ (i j : Nat) (d : D), i < len → (rs.getD i [])[j]? = some d → ∃ x, us'[i * s + j]? = some x ∧ RepD Γ.I w d x := fun i j d hilt hd => by
    have hir : i < rs.length := by rw [hrl, hlen]; exact hilt
    have hix : i < xs.length := by rw [hlen]; exact hilt
    have hg : rs.getD i [] = rs[i] := by rw [List.getD, List.getElem?_eq_getElem hir]; rfl
    rw [hg] at hd
    obtain ⟨l, hl, hls, hrls, hto⟩ := hrow i xs[i] rs[i] (List.getElem?_eq_getElem hix) (List.getElem?_eq_getElem hir)
    have hj : j < s := by rw [← hrls]; exact (List.getElem?_eq_some_iff.1 hd).1
    have hjl : j < l.length := by rw [hls]; exact hj
    obtain ⟨hc1, hc2, _⟩ := (hev xs[i]).cells hl
    obtain ⟨x, hx, hrx⟩ := hc2 j l[j] (List.getElem?_eq_getElem hjl)
    refine ⟨x, ?_, toD_rep (hto j _ d (List.getElem?_eq_getElem hjl) hd) hrx⟩
    have hip : i < parts.toList.length := by rw [← hol]; exact hix
    obtain ⟨_, hq2⟩ := hoget i _ (List.getElem?_eq_getElem hip)
    have hq : (parts.toList.map fun (i, x) => (i, ρ x))[i]? = some (parts.toList[i].1, ρ parts.toList[i].2) := by rw [List.getElem?_map, List.getElem?_eq_getElem hip]; rfl
    have := hf4 i j _ hq hj
    rw [Nat.zero_add] at this
    rw [this]
    have e2 : parts.toList[i].2 = xs[i] := by
      rw [List.getElem?_eq_getElem hix] at hq2; injection hq2 with hq2; exact hq2.symm
    simp only [e2]; exact hx
  have hrowlen : ∀ i, i < len → (rs.getD i []).length = s := fun i hilt => by
    have hir : i < rs.length := by rw [hrl, hlen]; exact hilt
    have hix : i < xs.length := by rw [hlen]; exact hilt
    obtain ⟨_, _, _, h3, _⟩ := hrow i xs[i] rs[i] (List.getElem?_eq_getElem hix) (List.getElem?_eq_getElem hir)
    rw [List.getD, List.getElem?_eq_getElem hir]; exact h3
  have hmax : len ≤ maxLen := by
    have : len ≤ len * s := Nat.le_mul_of_pos_right _ hs0
    unfold maxLen; omega
  match rs, hrl, hk, hcell, hrowlen with
  | [], hrl, hk, _, _ =>
    simp only [Option.some.injEq, Prod.mk.injEq] at hk; obtain ⟨_, rfl, rfl, rfl⟩ := hk
    have hl0 : len = 0 := by rw [← hlen, ← hrl]; rfl
    subst hl0
    have hb := alloc_still (base := base) hst (.cells us' e)
    exact ⟨_, _, _, .inl hrun, .c _ _ ⟨_, rfl⟩, hb.1, CxLe.also _ _, hb.2, fun _ _ => rfl, .inl ⟨rfl, rfl⟩⟩
  | r :: rs, hrl, hk, hcell, hrowlen =>
    have hl1 : (r :: rs).length = len := by rw [hrl, hlen]
    cases own with
    | true =>
      simp only [Option.some.injEq, Prod.mk.injEq] at hk; obtain ⟨_, rfl, rfl, rfl⟩ := hk
      have hb := alloc_row (base := base) hst hid hbase e s (r :: rs).length len (fun i => (r :: rs).getD i []) us' (by omega) hmax hus (fun i hi => hrowlen i (by omega)) (fun i j d hi hd => hcell i j d (by omega) hd)
      exact ⟨_, _, _, .inl hrun, .c _ _ ⟨_, upd_ρ_same, .inr ⟨len, upd_κ_same, by rw [hl1]⟩⟩, hb.1, CxLe.upd _ _ _ hid, hb.2, fun i hi => upd_ρ hi, .inr rfl⟩
    | false =>
      simp only [Option.some.injEq, Prod.mk.injEq] at hk; obtain ⟨_, rfl, rfl, rfl⟩ := hk
      have hb := alloc_still (base := base) hst (.cells us' e)
      refine ⟨_, _, _, .inl hrun, .c _ _ ?_, hb.1, CxLe.also _ _, hb.2, fun _ _ => rfl, .inl ⟨rfl, rfl⟩⟩
      show RepD _ _ _ _
      rw [hl1]
      refine .sl _ _ _ _ _ (fun i j => us'.getD (i * s + j) undef) (Nat.le_refl _) (.inr rfl) (fun i hi => hrowlen i hi) (fun i j d hi hd => ?_) (fun i j d hi hd => ?_)
      · obtain ⟨x, hx, _⟩ := hcell i j d hi hd
        rw [cell_at (heap_alloc_new' _ _)]
        rw [Nat.zero_add, hx]
        have : us'.getD (i * s + j) undef = x := by rw [Array.getD_eq_getD_getElem?, hx]; rfl
        rw [this]
      · obtain ⟨x, hx, hr⟩ := hcell i j d hi hd
        have : us'.getD (i * s + j) undef = x := by rw [Array.getD_eq_getD_getElem?, hx]; rfl
        rw [this]
        exact hr.mono (fun _ h => .inl h) (alloc_same hst _)
end
end Go.Pw
set_option linter.unusedVariables false
namespace Go.Pw
open Go Go.RowKit
section
variable {P : Program} {base : Nat} {Γ : Cx} {w : World} {σ σ' : Store} {id nx' : Nat} {o : Oper} {ρ : Operand → Value} {ev : Operand → V} {ob : Prop} {v : V}
theorem made_get {z : Array Value} {s n i j : Nat} (hz : z.size = s) (hi : i < n) (hj : j < s) : (madeCells z (n * s))[i * s + j]? = z[j]? := by
  have hlt : i * s + j < n * s := by
    have : (i + 1) * s ≤ n * s := Nat.mul_le_mul_right _ hi
    rw [Nat.add_mul] at this; omega
  have hm : (i * s + j) % s = j := by rw [Nat.mul_comm, Nat.mul_add_mod]; exact Nat.mod_eq_of_lt hj
  subst hz
  simp [madeCells, hlt, hm, hj]
theorem op_make {own : Bool} {t e : TypeId} {l c x : Operand} {s b : Nat} {z : List Value} (ho : o.op = .makeSlice t l c) (hu : P.underlying t = some (.slice e)) (hb : bytesT P e = some b) (hz : zeroOf P e = some z)
    (hl : l = x ∧ c = x) (hb0 : 0 < b) (hzl : z.length = s)
    (hev : ∀ x, RepV Γ w (ev x) (ρ x)) (hst : StoreOk Γ w σ) (hid : Γ.ρ id = none) (hbase : base ≤ id) (hx : xop ev σ id (.make own e s b z x) = some (ob, v, σ', nx')) (hob : ob) : Gives base Γ w σ id v σ' nx' ((execOp ρ o).run P w) := by
  obtain ⟨i, zv, hi, hzv, hzc, h1, hsz⟩ := zeroOf_spec hz
  obtain ⟨rfl, rfl⟩ := hl
  have hr := hev c
  simp only [xop] at hx
  split at hx
  · rename_i k n hv
    rw [hv] at hr
    have hib : i.bytes = b := by
      unfold bytesT at hb; rw [hi] at hb; simpa using hb
    have hzs : zv.cells.size = s := by rw [← hzl, ← hzc]; simp
    have his : i.size = s := by rw [hsz, hzl]
    have key : 0 ≤ n ∧ n * (b : Int) ≤ 140737488355328 → n.toNat ≤ maxLen ∧ (execOp ρ o).run P w = .ok (.value (.slice (some ⟨w.heap.size, 0, none⟩) n.toNat n.toNat)) (w.alloc (.cells (madeCells zv.cells (n.toNat * s)) e)) := fun ⟨h0, h2⟩ => by
      have hle : n ≤ 140737488355328 := by
        have : n * 1 ≤ n * (b : Int) := Int.mul_le_mul_of_nonneg_left (by omega) h0
        omega
      have hrun := run_make (P := P) w t e i zv hu hi hzv k k n n h0 (Int.le_refl _) (by rw [hib, Int.mul_comm]; omega) (by omega)
      refine ⟨by unfold maxLen; omega, ?_⟩
      simp only [execOp, ho, Sem.run_bind, hr.int, hrun, Result.andThen_ok, Sem.run_pure, his]
    have hcell : ∀ (q j : Nat) (d : D), q < n.toNat → (z.map D.v)[j]? = some d → ∃ x, (madeCells zv.cells (n.toNat * s))[q * s + j]? = some x ∧ RepD Γ.I w d x := fun q j d hq hd => by
      simp only [List.getElem?_map, Option.map_eq_some_iff] at hd
      obtain ⟨y, hy, rfl⟩ := hd
      have hj : j < s := by rw [← hzl]; exact (List.getElem?_eq_some_iff.1 hy).1
      refine ⟨y, ?_, .v _ (h1 y (List.mem_of_getElem? hy))⟩
      rw [made_get hzs hq hj]
      rw [← hzc] at hy; simpa using hy
    split at hx
    · simp only [Option.some.injEq, Prod.mk.injEq] at hx; obtain ⟨rfl, rfl, rfl, rfl⟩ := hx
      obtain ⟨hmx, hrun⟩ := key hob
      have hb := alloc_row (base := base) hst hid hbase e s n.toNat n.toNat (fun _ => z.map .v) (madeCells zv.cells (n.toNat * s)) (Nat.le_refl _) hmx (size_madeCells _ _) (fun _ _ => by simp [hzl]) hcell
      exact ⟨_, _, _, .inl hrun, .c _ _ ⟨_, upd_ρ_same, .inr ⟨_, upd_κ_same, rfl⟩⟩, hb.1, CxLe.upd _ _ _ hid, hb.2, fun i hi => upd_ρ hi, .inr rfl⟩
    · simp only [Option.some.injEq, Prod.mk.injEq] at hx; obtain ⟨rfl, rfl, rfl, rfl⟩ := hx
      obtain ⟨hmx, hrun⟩ := key hob
      have hb := alloc_still (base := base) hst (.cells (madeCells zv.cells (n.toNat * s)) e)
      refine ⟨_, _, _, .inl hrun, .c _ _ ?_, hb.1, CxLe.also _ _, hb.2, fun _ _ => rfl, .inl ⟨rfl, rfl⟩⟩
      refine .sl _ _ _ _ _ (fun _ j => z.getD j undef) (Nat.le_refl _) (.inr rfl) (fun _ _ => by simp [hzl]) (fun q j d hq hd => ?_) (fun q j d hq hd => ?_)
      · rw [cell_at (heap_alloc_new' _ _), Nat.zero_add]
        simp only [List.getElem?_map, Option.map_eq_some_iff] at hd
        obtain ⟨y, hy, rfl⟩ := hd
        have hj : j < s := by rw [← hzl]; exact (List.getElem?_eq_some_iff.1 hy).1
        rw [made_get hzs hq hj, List.getD, hy]
        rw [← hzc] at hy; simpa using hy
      · simp only [List.getElem?_map, Option.map_eq_some_iff] at hd
        obtain ⟨y, hy, rfl⟩ := hd
        rw [List.getD, hy]
        exact .v _ (h1 y (List.mem_of_getElem? hy))
  · cases hx
theorem arr_getD {xs : Array Value} {q : Nat} {x : Value} (h : xs[q]? = some x) : xs.getD q undef = x := by rw [Array.getD_eq_getD_getElem?, h]; rfl
def flat (U : Nat → Nat → Value) (m s : Nat) : List Value := (List.range (m * s)).map fun q => U (q / s) (q % s)
theorem flat_length (U : Nat → Nat → Value) (m s : Nat) : (flat U m s).length = m * s := by simp [flat]
theorem flat_get {U : Nat → Nat → Value} {m s i j : Nat} (hi : i < m) (hj : j < s) : (flat U m s)[i * s + j]? = some (U i j) := by
  have hlt : i * s + j < m * s := by
    have : (i + 1) * s ≤ m * s := Nat.mul_le_mul_right _ hi
    rw [Nat.add_mul] at this; omega
  have h1 : (i * s + j) / s = i := by
    rw [Nat.mul_comm, Nat.mul_add_div (by omega), Nat.div_eq_of_lt hj, Nat.add_zero]
  have h2 : (i * s + j) % s = j := by rw [Nat.mul_comm, Nat.mul_add_mod]; exact Nat.mod_eq_of_lt hj
  simp [flat, hlt, h1, h2]
theorem flat_some {U : Nat → Nat → Value} {m s q : Nat} {u : Value} (hs : 0 < s) (h : (flat U m s)[q]? = some u) : q / s < m ∧ q % s < s ∧ q = (q / s) * s + q % s ∧ u = U (q / s) (q % s) := by
  have hq : q < m * s := by rw [← flat_length U m s]; exact (List.getElem?_eq_some_iff.1 h).1
  refine ⟨div_lt_of hs hq, Nat.mod_lt _ hs, by rw [Nat.mul_comm]; exact (Nat.div_add_mod q s).symm, ?_⟩
  simpa [flat, hq] using h.symm
structure Src (Γ : Cx) (w : World) (s m : Nat) (g : Nat → List D) (u : Value) : Prop where
  form : ∃ A c, u = .slice A m c
  len : ∀ i, i < m → (g i).length = s
  cells : 0 < m → ∃ (ad : Addr) (c : Nat) (U : Nat → Nat → Value), u = .slice (some ad) m c ∧ (∀ i j, i < m → j < s → w.cell? (ad.add (i * s + j)) = some (U i j)) ∧ (∀ i j d, i < m → (g i)[j]? = some d → RepD Γ.I w d (U i j)) ∧ ∀ i j, i < m → j < s → one (U i j) = true
theorem src_sl {s m : Nat} {g : Nat → List D} {u : Value} (h : RepD Γ.I w (.sl s m g) u) : Src Γ w s m g u := by
  cases h with
  | slE s f A c => exact ⟨⟨A, c, rfl⟩, by omega, by omega⟩
  | sl s n f ad c U hn hI hs hc hr =>
    refine ⟨⟨_, c, rfl⟩, hs, fun _ => ⟨ad, c, U, rfl, fun i j hi hj => ?_, hr, fun i j hi hj => ?_⟩⟩
    · have hl : j < (g i).length := by rw [hs i hi]; exact hj
      exact hc i j _ hi (List.getElem?_eq_getElem hl)
    · have hl : j < (g i).length := by rw [hs i hi]; exact hj
      exact repD_one (hr i j _ hi (List.getElem?_eq_getElem hl))
theorem src_ms {s m m' i : Nat} {e : TypeId} {g : Nat → List D} {fz : Bool} {u : Value} (hst : StoreOk Γ w σ) (hg : get σ i = some (.row e s m' g fz)) (h : RepC Γ w (.ms i m) u) (hm : m ≤ m') : Src Γ w s m g u := by
  obtain ⟨b, hb, hu⟩ := h
  obtain ⟨b', hb', hok⟩ := hst.ok i _ hg
  rw [hb] at hb'; cases hb'
  rcases hu with ⟨rfl, hκ, rfl⟩ | ⟨c, hκ, rfl⟩
  · exact ⟨⟨none, 0, rfl⟩, by omega, by omega⟩
  · rcases hok with ⟨h1, _⟩ | ⟨c', h1, _, _, h4, _, h6, xs, h7, h8, h9⟩
    · rw [hκ] at h1; cases h1
    · have hx : ∀ i j, i < m → j < s → ∃ x, xs[i * s + j]? = some x ∧ ∃ d, (g i)[j]? = some d ∧ RepD Γ.I w d x := fun i j hi hj => by
        have hl : j < (g i).length := by rw [h6 i (by omega)]; exact hj
        obtain ⟨x, hx, hr⟩ := h9 i j _ (by omega) (List.getElem?_eq_getElem hl)
        exact ⟨x, hx, _, List.getElem?_eq_getElem hl, hr⟩
      refine ⟨⟨_, c, rfl⟩, fun i hi => h6 i (by omega), fun _ => ⟨⟨b, 0, none⟩, c, fun i j => xs.getD (i * s + j) undef, rfl, fun i j hi hj => ?_, fun i j d hi hd => ?_, fun i j hi hj => ?_⟩⟩
      · obtain ⟨x, hx, _⟩ := hx i j hi hj
        rw [cell_at h7, Nat.zero_add, hx]; exact congrArg some (arr_getD hx).symm
      · obtain ⟨x, hx, hr⟩ := h9 i j d (by omega) hd
        show RepD _ _ _ (xs.getD (i * s + j) undef)
        rw [arr_getD hx]; exact hr
      · obtain ⟨x, hx, d, _, hr⟩ := hx i j hi hj
        show one (xs.getD (i * s + j) undef) = true
        rw [arr_getD hx]; exact repD_one hr
theorem Src.news {s m : Nat} {g : Nat → List D} {u : Value} (h : Src Γ w s m g u) (hs : 0 < s) (hm : 0 < m) : ∃ ad c U, u = .slice (some ad) m c ∧ (∀ (q : Nat) v, (flat U m s)[q]? = some v → w.cell? (ad.add q) = some v) ∧
    (∀ v ∈ flat U m s, v.oneCell' = true) ∧ ∀ i j d, i < m → (g i)[j]? = some d → RepD Γ.I w d (U i j) := by
  obtain ⟨ad, c, U, hu, hc, hr, h1⟩ := h.cells hm
  refine ⟨ad, c, U, hu, fun q v hq => ?_, fun v hv => ?_, hr⟩
  · obtain ⟨h2, h3, h4, rfl⟩ := flat_some hs hq
    have := hc _ _ h2 h3
    rw [← h4] at this; exact this
  · obtain ⟨q, hq⟩ := List.getElem?_of_mem hv
    obtain ⟨h2, h3, _, rfl⟩ := flat_some hs hq
    exact one_oneCell' (h1 _ _ h2 h3)
theorem append_zero {t ty e : TypeId} (ht : P.underlying t = some (.slice e)) {s : Nat} (hn : sizeT P e = some s) (A B : Option Addr) (n cap c : Nat) (hnc : n ≤ cap) :
    (Builtin.append_ #[t, t] ty #[.slice A n cap, .slice B 0 c]).run P w = .ok (.slice A n cap) w := by
  have hf : (Builtin.firstCells s 0 (.slice B 0 c)).run P w = .ok #[] w := by
    cases B with
    | none => rfl
    | some b => simp [Builtin.firstCells, loadCells, loadCellsFrom]
  have hnot : ∀ k, ¬ (P.underlying t = some (.int k)) := fun k h => by rw [ht] at h; cases h
  cases A with
  | none => simp [Builtin.append_, run_underlying ht, run_sizeT hn, Builtin.lenOf, hnc, hf]
  | some a => simp [Builtin.append_, run_underlying ht, run_sizeT hn, Builtin.lenOf, hnc, hf, storeCells]
theorem append_fresh {t ty e : TypeId} {i : TypeInfo} {z : Value} (ht : P.underlying t = some (.slice e)) (hi : P.info? e = some i) (hz : i.zero = some z) (A : Option Addr) (a : Addr) (m c : Nat) (news : List Value) (hl : news.length = m * i.size)
    (hnews : ∀ (j : Nat) v, news[j]? = some v → w.cell? (a.add j) = some v) (h0 : 0 < m) (h63 : (m : Int) ≤ 9223372036854775807) (h48 : m * i.bytes ≤ 281474976710656) :
    (Builtin.append_ #[t, t] ty #[.slice A 0 0, .slice (some a) m c]).run P w =
      .ok (.slice (some ⟨w.heap.size, 0, none⟩) m (grownCap w m 0 e)) (w.drew.alloc (.cells (news.toArray ++ Builtin.zeroCells z.cells (grownCap w m 0 e - m)) e)) := by
  cases A with
  | none => exact run_append_nil (P := P) w t ty e i z ht hi hz a m c news hl hnews h0 h63 h48
  | some b =>
    have := run_append_grow (P := P) w t ty e i z ht hi hz b 0 0 [] (by simp) (by simp) a m c news hl hnews (by omega) (by simpa using h63) (by rw [Nat.zero_add, nextslicecap_zero h0]; exact h48)
    simpa using this
theorem zeroCells_size (z : Array Value) (n : Nat) : (Builtin.zeroCells z n).size = n * z.size := size_zeroCells z n
theorem growBy_le (newLen : Nat) : ∀ (r c : Nat), c ≤ 2 * newLen → Builtin.growBy newLen r c ≤ 2 * newLen ∨ Builtin.growBy newLen r c ≤ newLen + (newLen + 768) / 4
  | 0, c, h => .inl h
  | r + 1, c, h => by
    simp only [Builtin.growBy]
    split
    · exact .inl h
    · rename_i hc
      by_cases h2 : c + (c + 768) / 4 ≤ 2 * newLen
      · exact growBy_le newLen r _ h2
      · cases r with
        | zero => simp only [Builtin.growBy]; right; omega
        | succ r =>
          simp only [Builtin.growBy]
          rw [if_pos (by omega)]; right; omega
theorem nextslicecap_bound (n old : Nat) (h : old < n) : Builtin.nextslicecap n old ≤ 2 * n := by
  unfold Builtin.nextslicecap
  split
  · omega
  · split
    · omega
    · rename_i h1 h2
      rcases growBy_le n 4 old (by omega) with h3 | h3
      · exact h3
      · omega
theorem rows_app {s n m : Nat} {f g : Nat → List D} {xs : Array Value} {I : Nat → Prop} (hf : ∀ (i j : Nat) d, i < n → (f i)[j]? = some d → ∃ x, xs[i * s + j]? = some x ∧ RepD I w d x)
    (hg : ∀ (i j : Nat) d, i < m → (g i)[j]? = some d → ∃ x, xs[(n + i) * s + j]? = some x ∧ RepD I w d x) :
    ∀ (i j : Nat) d, i < n + m → (if i < n then f i else g (i - n))[j]? = some d → ∃ x, xs[i * s + j]? = some x ∧ RepD I w d x := fun i j d hi hd => by
  split at hd
  · rename_i h; exact hf i j d h hd
  · rename_i h
    obtain ⟨x, hx, hr⟩ := hg (i - n) j d (by omega) hd
    exact ⟨x, by rw [← hx]; congr 2; rw [Nat.add_sub_cancel' (by omega)], hr⟩
theorem same_drew {o : Obj} (h : StoreOk Γ w σ) : Same Γ.I w (w.drew.alloc o) := fun k hI => heap_alloc (w := w.drew) (h.im k hI)
theorem fresh_own {e : TypeId} {s m cap : Nat} {g : Nat → List D} {xs : Array Value} (hst : StoreOk Γ w σ) (hid : Γ.ρ id = none) (hbase : base ≤ id) (hm : m ≤ cap) (hc : cap ≤ maxLen) (hl : xs.size = cap * s) (hg : ∀ i, i < m → (g i).length = s)
    (hr : ∀ (i j : Nat) d, i < m → (g i)[j]? = some d → ∃ x, xs[i * s + j]? = some x ∧ RepD Γ.I w d x) (r : Result Next) (hrun : r = .ok (.value (.slice (some ⟨w.heap.size, 0, none⟩) m cap)) (w.drew.alloc (.cells xs e))) :
    Gives base Γ w σ id (.c (.ms id m)) ((id, .row e s m g false) :: σ) (id + 1) r := by
  have hnI : ¬ Γ.I w.heap.size := fun hI => Nat.lt_irrefl _ (hst.im _ hI)
  have hnL : ¬ Live Γ σ w.heap.size := fun hl => Nat.lt_irrefl _ (hst.live_lt hl)
  have hh : (w.drew.alloc (.cells xs e)).heap[w.heap.size]? = some (.cells xs e (0, 0)) := heap_alloc_new' w.drew _
  have he : EntOk (Γ.upd id w.heap.size (some cap)) (w.drew.alloc (.cells xs e)) id w.heap.size (.row e s m g false) :=
    .inr ⟨cap, upd_κ_same, (fun hf => by cases hf), fun _ => hnI, hm, hc, hg, xs, hh, hl, fun i j d hi hd => by
      obtain ⟨x, hx, hrr⟩ := hr i j d hi hd
      exact ⟨x, hx, hrr.mono (fun _ h => h) (same_drew hst)⟩⟩
  refine ⟨_, _, Γ.upd id w.heap.size (some cap), .inl hrun, .c _ _ ⟨_, upd_ρ_same, .inr ⟨_, upd_κ_same, rfl⟩⟩, hst.fresh hid (by simp) (fun k hk _ => heap_alloc (w := w.drew) hk) (fun _ => hnL) (.inr ⟨hnI, hnL⟩) he, CxLe.upd _ _ _ hid,
    Ext.grow (Γ := Γ) (w := w) (w' := w.drew.alloc (.cells xs e)) (fun i hi => upd_ρ (by omega)) (fun i hi => upd_κ (by omega)) (fun _ h => h) (fun _ h => .inl h) rfl rfl rfl (by simp) (fun k hk _ => heap_alloc (w := w.drew) hk) _ (fun k hk => ?_), fun i hi => upd_ρ hi, .inr rfl⟩
  rcases live_fresh hst hid hk with h1 | ⟨rfl, _⟩
  · exact .inl h1
  · exact .inr (Nat.le_refl _)
theorem fresh_still {e : TypeId} {s m cap : Nat} {g : Nat → List D} {xs : Array Value} (hst : StoreOk Γ w σ) (hm : m ≤ cap) (hg : ∀ i, i < m → (g i).length = s)
    (hr : ∀ (i j : Nat) d, i < m → (g i)[j]? = some d → ∃ x, xs[i * s + j]? = some x ∧ RepD Γ.I w d x) (r : Result Next) (hrun : r = .ok (.value (.slice (some ⟨w.heap.size, 0, none⟩) m cap)) (w.drew.alloc (.cells xs e))) :
    Gives base Γ w σ id (.c (.d (.sl s m g))) σ id r := by
  have hle : CxLe Γ (Γ.also fun k => k = w.heap.size) := CxLe.also _ _
  refine ⟨_, _, Γ.also fun k => k = w.heap.size, .inl hrun, .c _ _ ?_, hst.keep hle (fun k hI => ?_) (same_drew hst) (fun k hl => heap_alloc (w := w.drew) (hst.live_lt hl)) (fun k hl hI => ?_), hle,
    Ext.grow (Γ := Γ) (Γ' := Γ.also fun k => k = w.heap.size) (w := w) (w' := w.drew.alloc (.cells xs e)) (fun _ _ => rfl) (fun _ _ => rfl) (fun _ h => .inl h) (fun k h => h.imp (fun h => h) (fun e => .inl (Nat.le_of_eq e.symm))) rfl rfl rfl (by simp) (fun k hk _ => heap_alloc (w := w.drew) hk) _ (fun k hk => .inl (live_also.1 hk)), fun _ _ => rfl, .inl ⟨rfl, rfl⟩⟩
  · refine .sl _ _ _ _ _ (fun i j => xs.getD (i * s + j) undef) hm (.inr rfl) hg (fun i j d hi hd => ?_) (fun i j d hi hd => ?_)
    · obtain ⟨x, hx, _⟩ := hr i j d hi hd
      rw [cell_at (b := w.heap.size) (heap_alloc_new' w.drew _), Nat.zero_add, hx]; exact congrArg some (arr_getD hx).symm
    · obtain ⟨x, hx, hrr⟩ := hr i j d hi hd
      show RepD _ _ _ (xs.getD (i * s + j) undef)
      rw [arr_getD hx]; exact hrr.mono (fun _ h => .inl h) (same_drew hst)
  · rcases hI with hI | rfl
    · have := hst.im k hI; simp; omega
    · simp
  · rcases hI with hI | rfl
    · exact hst.not_live hI hl
    · exact Nat.lt_irrefl _ (hst.live_lt hl)
theorem run_appendN {t u ty e : TypeId} {i : TypeInfo} {z : Value} (ht : P.underlying t = some (.slice e)) (hut : P.underlying u = some (.int .i64)) (hi : P.info? e = some i) (hz : i.zero = some z) {n : Int} (h0 : 0 < n) (h48 : n * (i.bytes : Int) ≤ 140737488355328) (hb : 0 < i.bytes) (hs : 0 < i.size) :
    (Builtin.append_ #[t, u] ty #[.slice none 0 0, .int .i64 n]).run P w =
      .ok (.slice (some ⟨w.heap.size, 0, none⟩) n.toNat (grownCap w n.toNat 0 e)) (w.drew.alloc (.cells (Builtin.zeroCells z.cells n.toNat ++ Builtin.zeroCells z.cells (grownCap w n.toNat 0 e - n.toNat)) e)) := by
  have hle : n ≤ 140737488355328 := by
    have : n * 1 ≤ n * (i.bytes : Int) := Int.mul_le_mul_of_nonneg_left (by omega) (by omega)
    omega
  have hw : IntKind.i64.wrap n = n := wrap64_id ⟨by omega, by omega⟩
  obtain ⟨k, rfl⟩ : ∃ k : Nat, n = k := ⟨n.toNat, by omega⟩
  have hk : 0 < k := by omega
  have hn : k ≠ 0 := by omega
  have h63' : ¬ (9223372036854775807 < (k : Int)) := by omega
  have h0' : ¬ ((k : Int) < 0) := by omega
  have hkb : k * i.bytes ≤ 140737488355328 := by
    have h : ((k * i.bytes : Nat) : Int) ≤ 140737488355328 := by rw [Int.natCast_mul]; exact h48
    omega
  have ha : (asIntOf (.int .i64 (k : Int))).run P w = .ok (.i64, (k : Int)) w := rfl
  have h48' : ¬ (281474976710656 < Builtin.nextslicecap k 0 * i.bytes) := by rw [nextslicecap_zero hk]; omega
  have h49 : ¬ ((281474976710656 : Int) < (k : Int) * (i.bytes : Int)) := by omega
  have hsz : ¬ k * i.size = 0 := by
    have := Nat.mul_pos hk hs
    omega
  simp [Builtin.append_, run_underlying ht, run_underlying hut, sizeOf, typeInfo, zeroValue, hi, hz, hn, h63', h48', h49, h0', hw, asInt, ha, Question.forced, run_firstCells_none, newRow, grownCap]
  intro h
  exact absurd h hsz
theorem op_append {own : Bool} {t e : TypeId} {x y : Operand} {s b : Nat} {z : List Value} {c : Call} (ho : o.op = .call c) (hc : c.callee = .builtin .append) (hargs : c.args.toList = [x, y]) (htys : c.argTypes.toList = [t, t])
    (ht : P.underlying t = some (.slice e)) (hn : sizeT P e = some s) (hb : bytesT P e = some b) (hz : zeroOf P e = some z) (hs0 : 0 < s) (hb0 : 0 < b) (hzl : z.length = s)
    (hev : ∀ x, RepV Γ w (ev x) (ρ x)) (hst : StoreOk Γ w σ) (hid : Γ.ρ id = none) (hbase : base ≤ id) (hx : xop ev σ id (.append own e s b x y) = some (ob, v, σ', nx')) (hob : ob) : Gives base Γ w σ id v σ' nx' ((execOp ρ o).run P w) := by
  obtain ⟨i, zv, hi, hzv, hzc, h1, hsz⟩ := zeroOf_spec hz
  have hargs' : c.args = #[x, y] := by rw [← Array.toArray_toList (xs := c.args), hargs]
  have htys' : c.argTypes = #[t, t] := by rw [← Array.toArray_toList (xs := c.argTypes), htys]
  have hib : i.bytes = b := by unfold bytesT at hb; rw [hi] at hb; simpa using hb
  have hzs : zv.cells.size = s := by rw [← hzl, ← hzc]; simp
  have his : i.size = s := by rw [hsz, hzl]
  have hexec : (execOp ρ o).run P w = ((Builtin.append_ #[t, t] o.type #[ρ x, ρ y]).run P w).andThen fun u w' => .ok (.value u) w' := by
    simp [execOp, ho, resolve, hc, hargs', htys', invoke, builtin]
  have hmaxof : ∀ k : Nat, k * b ≤ 140737488355328 → k ≤ 140737488355328 := fun k hk => by
    have : k * 1 ≤ k * b := Nat.mul_le_mul_left _ hb0
    omega
  -- a slice without room, something appended
  have fresh : ∀ (A : Option Addr) (m : Nat) (g : Nat → List D), ρ x = .slice A 0 0 → Src Γ w s m g (ρ y) → 0 < m → m * b ≤ 140737488355328 →
      ∃ cap xs, m ≤ cap ∧ cap ≤ maxLen ∧ xs.size = cap * s ∧ (∀ (i j : Nat) d, i < m → (g i)[j]? = some d → ∃ x, xs[i * s + j]? = some x ∧ RepD Γ.I w d x) ∧
        (execOp ρ o).run P w = .ok (.value (.slice (some ⟨w.heap.size, 0, none⟩) m cap)) (w.drew.alloc (.cells xs e)) := fun A m g hA hsrc hm hmb => by
    obtain ⟨ad, cc, U, hu, hnews, hone, hr⟩ := hsrc.news hs0 hm
    have hmm := hmaxof m hmb
    have hrun := append_fresh (P := P) (w := w) (t := t) (ty := o.type) ht hi hzv A ad m cc (flat U m s) (by rw [flat_length, his]) hnews hm (by omega) (by rw [hib]; omega)
    refine ⟨grownCap w m 0 e, (flat U m s).toArray ++ Builtin.zeroCells zv.cells (grownCap w m 0 e - m), grownCap_ge w m 0 e, grownCap_le_maxLen w m 0 e (by unfold maxLen; omega), ?_, fun i j d hi hd => ?_, ?_⟩
    · rw [Array.size_append, zeroCells_size, hzs, List.size_toArray, flat_length, ← Nat.add_mul, Nat.add_sub_cancel' (grownCap_ge w m 0 e)]
    · have hj : j < s := by rw [← hsrc.len i hi]; exact (List.getElem?_eq_some_iff.1 hd).1
      have hlt : i * s + j < (flat U m s).length := by
        have := flat_get (U := U) hi hj; exact (List.getElem?_eq_some_iff.1 this).1
      refine ⟨U i j, ?_, hr i j d hi hd⟩
      rw [Array.getElem?_append_left (by simpa using hlt)]
      simpa using flat_get (U := U) hi hj
    · rw [hexec, hA, hu, hrun]; rfl
  -- nothing appended
  have zero : ∀ (A : Option Addr) (n cap : Nat) (g : Nat → List D), ρ x = .slice A n cap → n ≤ cap → Src Γ w s 0 g (ρ y) → (execOp ρ o).run P w = .ok (.value (.slice A n cap)) w := fun A n cap g hA hnc hsrc => by
    obtain ⟨B, cc, hu⟩ := hsrc.form
    rw [hexec, hA, hu, append_zero ht hn A B n cap cc hnc]; rfl
  have hrx := hev x
  have hry := hev y
  have hrowsrc : ∀ {s2 m : Nat} {g : Nat → List D}, ev y = .c (.d (.sl s2 m g)) → s = s2 → Src Γ w s m g (ρ y) := fun hv h => by
    rw [hv] at hry; subst h
    cases hry with | c _ u hr => exact src_sl hr
  have still : ∀ (A : Option Addr) (m : Nat) (g : Nat → List D), ρ x = .slice A 0 0 → Src Γ w s m g (ρ y) → m * b ≤ 140737488355328 → Gives base Γ w σ id (.c (.d (.sl s m g))) σ id ((execOp ρ o).run P w) := fun A m g hA hsrc hmb => by
    rcases Nat.eq_zero_or_pos m with h0 | h0
    · subst h0
      exact Gives.same hst (zero A 0 0 g hA (Nat.le_refl _) hsrc) (.c _ _ (.slE _ _ _ _))
    · obtain ⟨cap, xs, h1, h2, h3, h4, h5⟩ := fresh A m g hA hsrc h0 hmb
      exact fresh_still hst h1 hsrc.len h4 _ h5
  have ownf : ∀ (A : Option Addr) (m : Nat) (g : Nat → List D), ρ x = .slice A 0 0 → (A = none ∨ 0 < m) → Src Γ w s m g (ρ y) → m * b ≤ 140737488355328 → Gives base Γ w σ id (.c (.ms id m)) ((id, .row e s m g false) :: σ) (id + 1) ((execOp ρ o).run P w) := fun A m g hA hor hsrc hmb => by
    rcases Nat.eq_zero_or_pos m with h0 | h0
    · subst h0
      rcases hor with rfl | hor
      · have hb := name_nil (base := base) hst hid hbase e s g
        exact ⟨_, _, _, .inl (zero none 0 0 g hA (Nat.le_refl _) hsrc), .c _ _ ⟨_, upd_ρ_same, .inl ⟨rfl, upd_κ_same, rfl⟩⟩, hb.1, CxLe.upd _ _ _ hid, hb.2, fun i hi => upd_ρ hi, .inr rfl⟩
      · omega
    · obtain ⟨cap, xs, h1, h2, h3, h4, h5⟩ := fresh A m g hA hsrc h0 hmb
      exact fresh_own hst hid hbase h1 h2 h3 hsrc.len h4 _ h5
  have hnil : ev x = .c (.d (.v (.slice none 0 0))) → ρ x = .slice none 0 0 := fun hv => by
    rw [hv] at hrx
    generalize ρ x = u at hrx
    cases hrx with | c _ u hr => cases (show RepD Γ.I w _ u from hr); rfl
  have hzz : ev x = .c .z → ∃ A, ρ x = .slice A 0 0 := fun hv => by
    rw [hv] at hrx
    cases hrx with | c _ u hr => exact hr
  simp only [xop] at hx
  split at hx
  · -- an owned row grows
    rename_i i0 n s2 m g hvx hvy
    split at hx
    · rename_i e' s' n' f hg
      split at hx
      · rename_i q1 q2 q3
        have q1 := Nat.eq_of_beq_eq_true q1
        have q2 := Nat.eq_of_beq_eq_true q2
        have q3 := Nat.eq_of_beq_eq_true q3
        subst q1; subst q2
        rw [frs_eq] at hx
        simp only [Option.some.injEq, Prod.mk.injEq] at hx; obtain ⟨rfl, rfl, rfl, rfl⟩ := hx
        obtain ⟨rfl, hsize⟩ := hob
        have hsrc := hrowsrc hvy q3
        have hnm := hmaxof _ hsize
        rw [hvx] at hrx
        cases hrx with | c _ u hr =>
        obtain ⟨b0, hb0', hux⟩ := hr
        obtain ⟨b1, hb1, hok⟩ := hst.ok i0 _ hg
        rw [hb0'] at hb1; cases hb1
        rcases hux with ⟨rfl, hκ, hux⟩ | ⟨cap, hκ, hux⟩
        · -- nil
          have hnB : ¬ HasB Γ i0 (.row e s 0 f false) := fun ⟨c, hc⟩ => by rw [hκ] at hc; cases hc
          rcases Nat.eq_zero_or_pos m with h0 | h0
          · subst h0
            have hmv := hst.moved (base := base) (w' := w) (b := 0) (κ := none) (e := .row e s (0 + 0) (fun i => if i < 0 then f i else g (i - 0)) false) hg hid hbase rfl rfl rfl (Nat.le_refl _) (fun _ _ _ => rfl) (.inr hnB) (.inr (.inr (fun ⟨_, c, hc⟩ => by rw [upd_κ_same] at hc; cases hc))) (.inl ⟨upd_κ_same, rfl⟩)
            exact ⟨_, _, _, .inl (zero none 0 0 g hux (Nat.le_refl _) hsrc), .c _ _ ⟨_, upd_ρ_same, .inl ⟨rfl, upd_κ_same, rfl⟩⟩, hmv.1, CxLe.upd _ _ _ hid, hmv.2, fun i hi => upd_ρ hi, .inr rfl⟩
          · obtain ⟨cap, xs, h1, h2, h3, h4, h5⟩ := fresh none m g hux hsrc h0 (by simpa using hsize)
            have he : EntOk (Γ.upd id w.heap.size (some cap)) (w.drew.alloc (.cells xs e)) id w.heap.size (.row e s (0 + m) (fun i => if i < 0 then f i else g (i - 0)) false) :=
              .inr ⟨cap, upd_κ_same, (fun hf => by cases hf), fun _ hI => Nat.lt_irrefl _ (hst.im _ hI), by omega, h2, fun i hi => by dsimp only; rw [if_neg (by omega), Nat.sub_zero]; exact hsrc.len i (by omega), xs, heap_alloc_new' w.drew _, h3, fun i j d hi hd => by
                obtain ⟨x, hx, hrr⟩ := h4 i j d (by omega) (by simpa using hd)
                exact ⟨x, hx, hrr.mono (fun _ h => h) (same_drew hst)⟩⟩
            have hmv := hst.moved (base := base) (w' := w.drew.alloc (.cells xs e)) (b := w.heap.size) (κ := some cap) hg hid hbase rfl rfl rfl (by simp) (fun k hk _ => heap_alloc (w := w.drew) hk) (.inr hnB) (.inr (.inl (Nat.le_refl _))) he
            exact ⟨_, _, _, .inl h5, .c _ _ ⟨_, upd_ρ_same, .inr ⟨cap, upd_κ_same, by rw [Nat.zero_add]⟩⟩, hmv.1, CxLe.upd _ _ _ hid, hmv.2, fun i hi => upd_ρ hi, .inr rfl⟩
        · -- a block of its own
          rcases hok with ⟨h1, _⟩ | ⟨cap', hk1, _, hnI, hncap, hcm, hfl, xs, hh, hxs, hcells⟩
          · rw [hκ] at h1; cases h1
          · rw [hκ] at hk1; cases hk1
            have hnI := hnI rfl
            have hlive : LiveE Γ i0 (.row e s n f false) := ⟨rfl, cap, hκ⟩
            have hB : HasB Γ i0 (.row e s n f false) := ⟨cap, hκ⟩
            rcases Nat.eq_zero_or_pos m with h0 | h0
            · subst h0
              have he : EntOk (Γ.upd id b0 (some cap)) w id b0 (.row e s (n + 0) (fun i => if i < n then f i else g (i - n)) false) :=
                .inr ⟨cap, upd_κ_same, (fun hf => by cases hf), fun _ => hnI, hncap, hcm, fun i hi => by dsimp only; rw [if_pos (by omega)]; exact hfl i (by omega), xs, hh, hxs, fun i j d hi hd => by
                  dsimp only at hd; rw [if_pos (by omega)] at hd; exact hcells i j d (by omega) hd⟩
              have hmv := hst.moved (base := base) (w' := w) (b := b0) (κ := some cap) hg hid hbase rfl rfl rfl (Nat.le_refl _) (fun _ _ _ => rfl) (.inl hlive) (.inl ⟨hb0', hB⟩) he
              exact ⟨_, _, _, .inl (zero _ n cap g hux hncap hsrc), .c _ _ ⟨_, upd_ρ_same, .inr ⟨cap, upd_κ_same, rfl⟩⟩, hmv.1, CxLe.upd _ _ _ hid, hmv.2, fun i hi => upd_ρ hi, .inr rfl⟩
            · obtain ⟨ad, cc, U, hu, hnews, hone, hr⟩ := hsrc.news hs0 h0
              have hUcell : ∀ (i j : Nat) d, i < m → (g i)[j]? = some d → (flat U m s)[i * s + j]? = some (U i j) ∧ i * s + j < (flat U m s).length := fun i j d hi hd => by
                have hj : j < s := by rw [← hsrc.len i hi]; exact (List.getElem?_eq_some_iff.1 hd).1
                have := flat_get (U := U) hi hj
                exact ⟨this, (List.getElem?_eq_some_iff.1 this).1⟩
              have hflen : ∀ i, i < n + m → (if i < n then f i else g (i - n)).length = s := fun i hi => by
                split
                · rename_i h; exact hfl i h
                · exact hsrc.len _ (by omega)
              by_cases hroom : n + m ≤ cap
              · -- room
                have hfit : n * i.size + (flat U m s).length ≤ xs.size := by rw [flat_length, his, hxs, ← Nat.add_mul]; exact Nat.mul_le_mul_right _ hroom
                have hrun := run_append_room (P := P) w t o.type e i ht hi b0 n cap xs hh ad m cc (flat U m s) (by rw [flat_length, his]) hnews hone hroom hfit
                rw [his] at hrun hfit
                generalize hxs' : (xs.toList.take (n * s) ++ flat U m s ++ xs.toList.drop (n * s + (flat U m s).length)).toArray = xs' at hrun
                have hns : n * s ≤ xs.size := by omega
                have hsz' : xs'.size = cap * s := by rw [← hxs', ← hxs]; simp; omega
                have hsame : Same Γ.I w (w.setRow b0 xs') := fun k hI => setRow_other w b0 k xs' (fun e => hnI (e ▸ hI))
                have he : EntOk (Γ.upd id b0 (some cap)) (w.setRow b0 xs') id b0 (.row e s (n + m) (fun i => if i < n then f i else g (i - n)) false) :=
                  .inr ⟨cap, upd_κ_same, (fun hf => by cases hf), fun _ => hnI, hroom, hcm, hflen, xs', setRow_heap w b0 xs xs' e _ hh, hsz', rows_app (fun i j d hi hd => by
                    obtain ⟨x, hx, hrr⟩ := hcells i j d hi hd
                    have hj : j < s := by rw [← hfl i hi]; exact (List.getElem?_eq_some_iff.1 hd).1
                    have hlt : i * s + j < n * s := by
                      have : (i + 1) * s ≤ n * s := Nat.mul_le_mul_right _ hi
                      rw [Nat.add_mul] at this; omega
                    refine ⟨x, ?_, hrr.mono (fun _ h => h) hsame⟩
                    rw [← hxs', List.getElem?_toArray, List.append_assoc, List.getElem?_append_left (by simp; omega), List.getElem?_take, if_pos hlt]
                    simpa using hx) (fun i j d hi hd => by
                    obtain ⟨h3, h4⟩ := hUcell i j d hi hd
                    refine ⟨U i j, ?_, (hr i j d hi hd).mono (fun _ h => h) hsame⟩
                    rw [← hxs', List.getElem?_toArray, List.append_assoc, List.getElem?_append_right (by simp; rw [Nat.add_mul]; omega), List.getElem?_append_left (by simp; rw [Nat.add_mul]; omega), ← h3]
                    congr 1; simp; rw [Nat.add_mul]; omega)⟩
                have hmv := hst.moved (base := base) (w' := w.setRow b0 xs') (b := b0) (κ := some cap) hg hid hbase rfl rfl rfl (by simp) (fun k _ hk => setRow_other w b0 k xs' (hk b0 hb0' hB)) (.inl hlive) (.inl ⟨hb0', hB⟩) he
                exact ⟨_, _, _, .inl (by rw [hexec, hux, hu, hrun]; rfl), .c _ _ ⟨_, upd_ρ_same, .inr ⟨cap, upd_κ_same, rfl⟩⟩, hmv.1, CxLe.upd _ _ _ hid, hmv.2, fun i hi => upd_ρ hi, .inr rfl⟩
              · -- a new block
                have holds : ∀ (j : Nat) v, (xs.toList.take (n * s))[j]? = some v → w.cell? ((⟨b0, 0, none⟩ : Addr).add j) = some v := fun j v hj => by
                  rw [List.getElem?_take] at hj
                  split at hj
                  · rw [cell_at hh, Nat.zero_add]; simpa using hj
                  · cases hj
                have hns : n * s ≤ xs.size := by rw [hxs]; exact Nat.mul_le_mul_right _ hncap
                have hcapn : Builtin.nextslicecap (n + m) cap * i.bytes ≤ 281474976710656 := by
                  have := nextslicecap_bound (n + m) cap (by omega)
                  rw [hib]
                  calc Builtin.nextslicecap (n + m) cap * b ≤ (2 * (n + m)) * b := Nat.mul_le_mul_right _ this
                    _ ≤ 281474976710656 := by rw [Nat.mul_assoc]; omega
                have hrun := run_append_grow (P := P) w t o.type e i zv ht hi hzv ⟨b0, 0, none⟩ n cap (xs.toList.take (n * s)) (by simp [his]; omega) holds ad m cc (flat U m s) (by rw [flat_length, his]) hnews (by omega) (by omega) hcapn
                generalize hxs' : (xs.toList.take (n * s)).toArray ++ (flat U m s).toArray ++ Builtin.zeroCells zv.cells (grownCap w (n + m) cap e - (n + m)) = xs' at hrun
                have hge := grownCap_ge w (n + m) cap e
                have hl1 : (xs.toList.take (n * s)).length = n * s := by simp; omega
                have hsz' : xs'.size = grownCap w (n + m) cap e * s := by
                  rw [← hxs', Array.size_append, Array.size_append, zeroCells_size, hzs, List.size_toArray, List.size_toArray, flat_length, hl1, ← Nat.add_mul, ← Nat.add_mul, Nat.add_sub_cancel' hge]
                have he : EntOk (Γ.upd id w.heap.size (some (grownCap w (n + m) cap e))) (w.drew.alloc (.cells xs' e)) id w.heap.size (.row e s (n + m) (fun i => if i < n then f i else g (i - n)) false) :=
                  .inr ⟨_, upd_κ_same, (fun hf => by cases hf), fun _ hI => Nat.lt_irrefl _ (hst.im _ hI), hge, grownCap_le_maxLen w (n + m) cap e (by unfold maxLen; omega), hflen, xs', heap_alloc_new' w.drew _, hsz', rows_app (fun i j d hi hd => by
                    obtain ⟨x, hx, hrr⟩ := hcells i j d hi hd
                    have hj : j < s := by rw [← hfl i hi]; exact (List.getElem?_eq_some_iff.1 hd).1
                    have hlt : i * s + j < n * s := by
                      have : (i + 1) * s ≤ n * s := Nat.mul_le_mul_right _ hi
                      rw [Nat.add_mul] at this; omega
                    refine ⟨x, ?_, hrr.mono (fun _ h => h) (same_drew hst)⟩
                    rw [← hxs', Array.append_assoc, Array.getElem?_append_left (by simp; omega)]
                    simp only [List.getElem?_toArray, List.getElem?_take, if_pos hlt]
                    simpa using hx) (fun i j d hi hd => by
                    obtain ⟨h3, h4⟩ := hUcell i j d hi hd
                    refine ⟨U i j, ?_, (hr i j d hi hd).mono (fun _ h => h) (same_drew hst)⟩
                    rw [← hxs', Array.append_assoc, Array.getElem?_append_right (by rw [List.size_toArray, hl1, Nat.add_mul]; omega), Array.getElem?_append_left (by rw [List.size_toArray, List.size_toArray, hl1, Nat.add_mul]; omega), List.getElem?_toArray, ← h3]
                    congr 1; rw [List.size_toArray, hl1, Nat.add_mul]; omega)⟩
                have hmv := hst.moved (base := base) (w' := w.drew.alloc (.cells xs' e)) (b := w.heap.size) (κ := some (grownCap w (n + m) cap e)) hg hid hbase rfl rfl rfl (by simp) (fun k hk _ => heap_alloc (w := w.drew) hk) (.inl hlive) (.inr (.inl (Nat.le_refl _))) he
                exact ⟨_, _, _, .inl (by rw [hexec, hux, hu, hrun]; rfl), .c _ _ ⟨_, upd_ρ_same, .inr ⟨_, upd_κ_same, rfl⟩⟩, hmv.1, CxLe.upd _ _ _ hid, hmv.2, fun i hi => upd_ρ hi, .inr rfl⟩
      · cases hx
    · cases hx
  · rename_i s2 m g hvx hvy
    split at hx
    · rename_i q
      have q := Nat.eq_of_beq_eq_true q
      simp only [Option.some.injEq, Prod.mk.injEq] at hx; obtain ⟨rfl, rfl, rfl, rfl⟩ := hx
      exact ownf none m g (hnil hvx) (.inl rfl) (hrowsrc hvy q) hob
    · cases hx
  · rename_i s2 m g hvx hvy
    split at hx
    · rename_i q
      have q := Nat.eq_of_beq_eq_true q
      simp only [Option.some.injEq, Prod.mk.injEq] at hx; obtain ⟨rfl, rfl, rfl, rfl⟩ := hx
      obtain ⟨A, hA⟩ := hzz hvx
      exact ownf A m g hA (.inr hob.1) (hrowsrc hvy q) hob.2
    · split at hx
      · simp only [Option.some.injEq, Prod.mk.injEq] at hx; obtain ⟨rfl, rfl, rfl, rfl⟩ := hx
        obtain rfl : m = 0 := hob
        obtain ⟨A, hA⟩ := hzz hvx
        rw [hvy] at hry
        have hu : ∃ B cc, ρ y = .slice B 0 cc := by
          generalize ρ y = u at hry
          cases hry with | c _ u hr =>
          have hr : RepD Γ.I w (.sl s2 0 g) u := hr
          generalize hd : D.sl s2 0 g = d at hr
          cases hr with
          | v x h => cases hd
          | slE s f B c => exact ⟨B, c, rfl⟩
          | sl s n f ad c U h1 h2 h3 h4 h5 => cases hd; exact ⟨some ad, c, rfl⟩
        obtain ⟨B, cc, hu⟩ := hu
        exact Gives.same hst (by rw [hexec, hA, hu, append_zero ht hn A B 0 0 cc (Nat.le_refl _)]; rfl) (.c _ _ ⟨A, rfl⟩)
      · cases hx
  · rename_i s2 m g hvx hvy
    split at hx
    · rename_i q
      have q := Nat.eq_of_beq_eq_true q
      simp only [Option.some.injEq, Prod.mk.injEq] at hx; obtain ⟨rfl, rfl, rfl, rfl⟩ := hx
      exact still none m g (hnil hvx) (hrowsrc hvy q) hob
    · cases hx
  · rename_i s2 m g hvx hvy
    split at hx
    · rename_i q
      have q := Nat.eq_of_beq_eq_true q
      simp only [Option.some.injEq, Prod.mk.injEq] at hx; obtain ⟨rfl, rfl, rfl, rfl⟩ := hx
      obtain ⟨A, hA⟩ := hzz hvx
      exact still A m g hA (hrowsrc hvy q) hob
    · cases hx
  · rename_i i1 m hvx hvy
    split at hx
    · rename_i e1 s2 m' g fz hg
      split at hx
      · rename_i q
        have q := Nat.eq_of_beq_eq_true q
        subst q
        simp only [Option.some.injEq, Prod.mk.injEq] at hx; obtain ⟨rfl, rfl, rfl, rfl⟩ := hx
        obtain ⟨A, hA⟩ := hzz hvx
        rw [hvy] at hry
        cases hry with | c _ u hr =>
        exact still A m g hA (src_ms hst hg hr hob.1) hob.2
      · cases hx
    · cases hx
  · -- a slice without room behind it: a new block, closed at once
    rename_i s1 n f s2 m g hvx hvy
    split at hx
    · rename_i q1 q2
      have q1 := Nat.eq_of_beq_eq_true q1
      have q2 := Nat.eq_of_beq_eq_true q2
      subst q1
      simp only [Option.some.injEq, Prod.mk.injEq] at hx; obtain ⟨rfl, rfl, rfl, rfl⟩ := hx
      obtain ⟨hm0, hsize⟩ := hob
      have hsrc := hrowsrc hvy q2
      have hnm := hmaxof _ hsize
      rw [hvx] at hrx
      cases hrx with | c _ u hr =>
      obtain ⟨⟨A, hux⟩, hrd⟩ := hr
      obtain ⟨ad, cc, U, hu, hnews, hone, hr⟩ := hsrc.news hs0 hm0
      rcases Nat.eq_zero_or_pos n with h0 | h0
      · subst h0
        have := still A m g hux hsrc (by simpa using hsize)
        have e : (D.sl s (0 + m) fun i => if i < 0 then f i else g (i - 0)) = D.sl s m g := by simp
        rw [e]; exact this
      · have hsx := src_sl hrd
        obtain ⟨ad0, c0, U0, hu0, holds0, hone0, hr0⟩ := hsx.news hs0 h0
        rw [hux] at hu0
        simp only [Value.slice.injEq, true_and] at hu0
        obtain ⟨rfl, rfl⟩ := hu0
        have hcapn : Builtin.nextslicecap (n + m) n * i.bytes ≤ 281474976710656 := by
          have := nextslicecap_bound (n + m) n (by omega)
          rw [hib]
          calc Builtin.nextslicecap (n + m) n * b ≤ (2 * (n + m)) * b := Nat.mul_le_mul_right _ this
            _ ≤ 281474976710656 := by rw [Nat.mul_assoc]; omega
        have hrun := run_append_grow (P := P) w t o.type e i zv ht hi hzv ad0 n n (flat U0 n s) (by rw [flat_length, his]) holds0 ad m cc (flat U m s) (by rw [flat_length, his]) hnews (by omega) (by omega) hcapn
        have hge := grownCap_ge w (n + m) n e
        have key : ∀ (V : Nat → Nat → Value) (k : Nat) (h : Nat → List D), (∀ i j d, i < k → (h i)[j]? = some d → RepD Γ.I w d (V i j)) → (∀ i, i < k → (h i).length = s) → ∀ (i j : Nat) d, i < k → (h i)[j]? = some d → (flat V k s)[i * s + j]? = some (V i j) ∧ i * s + j < (flat V k s).length := fun V k h _ hl i j d hi hd => by
          have hj : j < s := by rw [← hl i hi]; exact (List.getElem?_eq_some_iff.1 hd).1
          have := flat_get (U := V) hi hj
          exact ⟨this, (List.getElem?_eq_some_iff.1 this).1⟩
        refine fresh_still hst hge (fun i hi => ?_) (xs := (flat U0 n s).toArray ++ (flat U m s).toArray ++ Builtin.zeroCells zv.cells (grownCap w (n + m) n e - (n + m))) (rows_app (fun i j d hi hd => ?_) (fun i j d hi hd => ?_)) _ (by rw [hexec, hux, hu, hrun]; rfl)
        · split
          · rename_i h; exact hsx.len i h
          · exact hsrc.len _ (by omega)
        · obtain ⟨h3, h4⟩ := key U0 n f hr0 hsx.len i j d hi hd
          refine ⟨U0 i j, ?_, hr0 i j d hi hd⟩
          rw [Array.append_assoc, Array.getElem?_append_left (by simpa using h4)]
          simpa using h3
        · obtain ⟨h3, h4⟩ := key U m g hr hsrc.len i j d hi hd
          refine ⟨U i j, ?_, hr i j d hi hd⟩
          rw [Array.append_assoc, Array.getElem?_append_right (by rw [List.size_toArray, flat_length, Nat.add_mul]; omega), Array.getElem?_append_left (by rw [List.size_toArray, List.size_toArray, flat_length, Nat.add_mul]; omega), List.getElem?_toArray, ← h3]
          congr 1; rw [List.size_toArray, flat_length, Nat.add_mul]; omega
    · cases hx
  · cases hx
theorem zeroCells_get {z : Array Value} {s n i j : Nat} (hz : z.size = s) (hi : i < n) (hj : j < s) : (Builtin.zeroCells z n)[i * s + j]? = z[j]? := by
  have hlt : i * s + j < n * s := by
    have : (i + 1) * s ≤ n * s := Nat.mul_le_mul_right _ hi
    rw [Nat.add_mul] at this; omega
  have hm : (i * s + j) % s = j := by rw [Nat.mul_comm, Nat.mul_add_mod]; exact Nat.mod_eq_of_lt hj
  subst hz
  simp [Builtin.zeroCells, hlt, hm, hj]
theorem op_appendN {t u e : TypeId} {x y : Operand} {s b : Nat} {z : List Value} {c : Call} (ho : o.op = .call c) (hc : c.callee = .builtin .append) (hargs : c.args.toList = [x, y]) (htys : c.argTypes.toList = [t, u])
    (ht : P.underlying t = some (.slice e)) (hut : P.underlying u = some (.int .i64)) (hb : bytesT P e = some b) (hz : zeroOf P e = some z) (hs0 : 0 < s) (hb0 : 0 < b) (hzl : z.length = s)
    (hev : ∀ x, RepV Γ w (ev x) (ρ x)) (hst : StoreOk Γ w σ) (hid : Γ.ρ id = none) (hbase : base ≤ id) (hx : xop ev σ id (.appendN e s b z x y) = some (ob, v, σ', nx')) (hob : ob) : Gives base Γ w σ id v σ' nx' ((execOp ρ o).run P w) := by
  obtain ⟨i, zv, hi, hzv, hzc, h1, hsz⟩ := zeroOf_spec hz
  have hargs' : c.args = #[x, y] := by rw [← Array.toArray_toList (xs := c.args), hargs]
  have htys' : c.argTypes = #[t, u] := by rw [← Array.toArray_toList (xs := c.argTypes), htys]
  have hib : i.bytes = b := by unfold bytesT at hb; rw [hi] at hb; simpa using hb
  have hzs : zv.cells.size = s := by rw [← hzl, ← hzc]; simp
  have his : i.size = s := by rw [hsz, hzl]
  have hrx := hev x
  have hry := hev y
  simp only [xop] at hx
  split at hx
  · rename_i n hvx hvy
    rw [hvx] at hrx; rw [hvy] at hry
    simp only [Option.some.injEq, Prod.mk.injEq] at hx; obtain ⟨rfl, rfl, rfl, rfl⟩ := hx
    obtain ⟨o1, o2⟩ := hob
    have hux := repV_nil hrx
    have hle : n ≤ 140737488355328 := by
      have : n * 1 ≤ n * (b : Int) := Int.mul_le_mul_of_nonneg_left (by omega) (by omega)
      omega
    have hrun := run_appendN (P := P) (w := w) (ty := o.type) ht hut hi hzv o1 (by rw [hib]; exact o2) (by omega) (by omega)
    have hge := grownCap_ge w n.toNat 0 e
    refine fresh_own hst hid hbase hge (grownCap_le_maxLen w n.toNat 0 e (by unfold maxLen; omega)) (xs := Builtin.zeroCells zv.cells n.toNat ++ Builtin.zeroCells zv.cells (grownCap w n.toNat 0 e - n.toNat)) ?_ (fun i hi => by simp [hzl]) (fun q j d hq hd => ?_) _ ?_
    · rw [Array.size_append, zeroCells_size, zeroCells_size, hzs, ← Nat.add_mul, Nat.add_sub_cancel' hge]
    · simp only [List.getElem?_map, Option.map_eq_some_iff] at hd
      obtain ⟨y, hy, rfl⟩ := hd
      have hj : j < s := by rw [← hzl]; exact (List.getElem?_eq_some_iff.1 hy).1
      refine ⟨y, ?_, .v _ (h1 y (List.mem_of_getElem? hy))⟩
      have hg := zeroCells_get hzs hq hj
      have hlt : q * s + j < (Builtin.zeroCells zv.cells n.toNat).size := by
        rw [zeroCells_size, hzs]
        have : (q + 1) * s ≤ n.toNat * s := Nat.mul_le_mul_right _ hq
        rw [Nat.add_mul] at this; omega
      rw [Array.getElem?_append_left hlt, hg]
      rw [← hzc] at hy; simpa using hy
    · simp only [execOp, ho, resolve, hc, hargs', htys', Sem.run_bind, Sem.run_pure, Result.andThen_ok, invoke, builtin]
      have e1 : (#[x, y] : Array Operand).map ρ = #[.slice none 0 0, .int .i64 n] := by simp [hux, hry.int]
      rw [e1, hrun]; rfl
  · cases hx
end
end Go.Pw
