/- Steps toward the row of this claim: part 5 of 6. Proved as named below, on no condition but those that each theorem states. -/
import Derived.Test.YtailfkllanegeaaGreatDoorTopDivePricedD
import Derived.Test.YtailfkllanegeaaGreatDoorProg
import Derived.Shelf.Strings.Builder1
import Derived.Shelf.Strings.OnBuilder
import Derived.Shelf.Strings.BuilderK
import Derived.Shelf.LaysM
import Derived.Shelf.LaysC
import Derived.Shelf.Strconv.Itoa3
import Derived.Shelf.Strconv.AtoiAll
import Derived.Shelf.Strings.Search3
import Derived.Shelf.Strings.SplitCore
import Derived.Shelf.Strings.Prefix
import Derived.Shelf.Strings.Count
import Derived.Lib.AtoiAll
import Derived.Lib.ItoaNum
import Derived.Lib.ItoaLen
import Derived.Lib.Join
import Derived.Lib.Split
import Derived.Lib.SplitLaws
import Derived.Lib.AtoiErrMem
import Derived.Test.YtailfkllanegeaaGreatDoorRows
import Derived.LaidMore
import Derived.OpenShut
import Derived.Lib.LaidTab
set_option linter.unusedSimpArgs false
set_option linter.unusedVariables false
set_option maxHeartbeats 4000000
namespace Go.Pw
set_option maxRecDepth 2000
open Go Go.Proofs A1 A2 A3 A4
theorem bit_i64 {b i : Nat} (hb : b < 2 ^ 62) (hi : i < 64) : decide (IntKind.i64.wrap ((BitVec.ofInt IntKind.i64.bits ((b : Int).fdiv (2 ^ min (Int.toNat (i : Int)) IntKind.i64.bits)) &&& BitVec.ofInt IntKind.i64.bits 1).toNat : Nat) = 1) = b.testBit i := by
  have hbits : IntKind.i64.bits = 64 := rfl
  have e1 : (b : Int).fdiv (2 ^ min (Int.toNat (i : Int)) IntKind.i64.bits) = ((b / 2 ^ i : Nat) : Int) := by
    rw [hbits, Int.toNat_natCast, Nat.min_eq_left (by omega), Int.fdiv_eq_ediv_of_nonneg _ (Int.pow_nonneg (by decide))]
    norm_cast
  rw [e1, Nat.testBit_eq_decide_div_mod_eq]
  have hlt : b / 2 ^ i < 2 ^ 62 := by
    have := Nat.div_le_self b (2 ^ i)
    omega
  generalize b / 2 ^ i = q at hlt ⊢
  have e2 : (BitVec.ofInt IntKind.i64.bits (q : Int) &&& BitVec.ofInt IntKind.i64.bits 1).toNat = q % 2 := by
    rw [BitVec.toNat_and]
    have f1 : (BitVec.ofInt IntKind.i64.bits (q : Int)).toNat = q := by
      rw [BitVec.toNat_ofInt, hbits]; omega
    have f2 : (BitVec.ofInt IntKind.i64.bits 1).toNat = 1 := rfl
    rw [f1, f2, Nat.and_one_is_mod]
  rw [e2]
  have e3 : IntKind.i64.wrap ((q % 2 : Nat) : Int) = ((q % 2 : Nat) : Int) := by
    rcases (show q % 2 = 0 ∨ q % 2 = 1 by omega) with h | h <;> rw [h] <;> rfl
  rw [e3, Bool.eq_iff_iff, decide_eq_true_eq, decide_eq_true_eq]
  omega
theorem shl_i64 {n : Nat} (h : n ≤ 20) : IntKind.i64.wrap (1 * 2 ^ min (Int.toNat (n : Int)) IntKind.i64.bits) = ((2 ^ n : Nat) : Int) := by
  have : n = 0 ∨ n = 1 ∨ n = 2 ∨ n = 3 ∨ n = 4 ∨ n = 5 ∨ n = 6 ∨ n = 7 ∨ n = 8 ∨ n = 9 ∨ n = 10 ∨ n = 11 ∨ n = 12 ∨ n = 13 ∨ n = 14 ∨ n = 15 ∨ n = 16 ∨ n = 17 ∨ n = 18 ∨ n = 19 ∨ n = 20 := by omega
  rcases this with h | h | h | h | h | h | h | h | h | h | h | h | h | h | h | h | h | h | h | h | h <;> subst h <;> decide
theorem fltL_mem {p : Nat → Bool} {n k : Nat} : (k : Int) ∈ fltL p n ↔ k < n ∧ p k = true := by
  rw [fltL, List.mem_map]
  constructor
  · rintro ⟨i, hi, he⟩
    have : i = k := by omega
    subst this
    exact ⟨List.mem_range.1 (List.mem_filter.1 hi).1, (List.mem_filter.1 hi).2⟩
  · rintro ⟨h1, h2⟩
    exact ⟨k, List.mem_filter.2 ⟨List.mem_range.2 h1, h2⟩, rfl⟩
theorem fltL_asc {p : Nat → Bool} {n : Nat} : (fltL p n).Pairwise (· < ·) := by
  rw [fltL, List.pairwise_map]
  refine List.Pairwise.filter _ ?_
  exact List.pairwise_lt_range.imp fun h => Int.ofNat_lt.2 h
abbrev subL (n b : Nat) : List Int := fltL (fun i => b.testBit i) n
theorem subL_mem {n b : Nat} {x : Int} (h : x ∈ subL n b) : 0 ≤ x ∧ x < n := by
  simp only [subL, fltL, List.mem_map, List.mem_filter, List.mem_range] at h
  obtain ⟨i, ⟨h1, _⟩, rfl⟩ := h
  omega
theorem subL_nd {n b : Nat} : (subL n b).Nodup := by
  rw [List.nodup_iff_pairwise_ne]
  exact fltL_asc.imp fun h => by omega
abbrev nilO : Option (List Int) → V
  | none => .c (.d (.v (.slice none 0 0)))
  | some l => .c (ints l)
abbrev smO (o : Option (List Int)) (l : List Int) : Bool := match o with
  | none => true
  | some m => decide (fstE [cmpI l.length m.length, cmpL l m] < 0)
abbrev clB (s : Si) (t : St8) (l : List Int) : Bool := !dnB t l && !tgB s t l
def clK (s : Si) (t : St8) (n : Nat) : Nat → Option (List Int)
  | 0 => none
  | b + 1 => if smO (clK s t n b) (subL n b) = true ∧ clB s t (subL n b) = true then some (subL n b) else clK s t n b
abbrev clO (s : Si) (t : St8) : Option (List Int) := clK s t s.tk.length (2 ^ s.tk.length)
def clE (s : Si) (t : St8) : List Int × Int := if onE s t = 0 then (match clO s t with | none => ([], 12) | some l => (l, 0)) else ([], onE s t)
theorem SetOk.sub {s : Si} {t : St8} {b : Nat} (h : dnB t (subL s.tk.length b) = false) : SetOk s t (subL s.tk.length b) where
  n := fun i hi => subL_mem (getD_mem 0 hi)
  u := subL_nd
  d := fun x hx => by have := List.any_eq_false.1 h x hx; simpa using this
theorem clK_len {s : Si} {t : St8} {n : Nat} : ∀ {b : Nat} {l : List Int}, clK s t n b = some l → l.length ≤ n ∧ 0 < l.length
  | 0, l, h => by cases h
  | b + 1, l, h => by
    rw [clK] at h
    split at h
    · rename_i hh
      cases h
      refine ⟨fltL_len _ _, ?_⟩
      rcases Nat.eq_zero_or_pos (subL n b).length with h0 | h0
      · have e := List.eq_nil_of_length_eq_zero h0
        rw [e] at hh
        have := hh.2
        simp [clB, tgB, togB] at this
      · exact h0
    · exact clK_len h
theorem C71 {s : Si} {t : St8} : (SiSm s ∧ t.d.length ≤ 1000000) → PFD Tryz.prog 71 [siv s, stv t] (.tup [.c (ints (clE s t).1), vi .i64 (clE s t).2]) := fun ⟨hs, ht⟩ => by
  have c1 := C156 (s := s) (t := t) ⟨hs, ht⟩
  obtain ⟨q, hq⟩ : ∃ q, q = clE s t := ⟨_, rfl⟩
  rw [← hq]
  rw [clE] at hq
  by_cases h0 : onE s t = 0
  · rw [if_pos h0, clO] at hq
    rw [h0] at c1
    have hO := OnOk.of h0
    have hn := hO.ok.n
    have hshl := shl_i64 (n := s.tk.length) (by omega)
    have hpow : 2 ^ s.tk.length ≤ 2 ^ 6 := Nat.pow_le_pow_right (by decide) hn
    have hpos : 1 ≤ 2 ^ s.tk.length := Nat.one_le_two_pow
    obtain ⟨N, hN⟩ : ∃ N, N = 2 ^ s.tk.length := ⟨_, rfl⟩
    rw [← hN] at hshl hpow hq hpos
    have hst : none = clK s t s.tk.length 1 := by
      have e : subL s.tk.length 0 = [] := by
        rw [subL, fltL, List.map_eq_nil_iff, List.filter_eq_nil_iff]; simp
      rw [clK, clK, e, if_neg]
      rintro ⟨_, h⟩
      simp [clB, tgB, togB] at h
    refine pi2 fn71 ?_
    (repeat' first | (refine Owe.same ?_; first | refine Owe.o ?_ | refine Owe.mk ?_ ?_) | (refine Fork.same ?_; (first | refine fkY ?_ | refine fkF ?_ | ((first | refine fkD ?_ ?_ | refine fkN ?_ ?_ | refine fkM ?_ ?_) <;> intro h))) | ((first | refine OpsL.same ?_ | refine OpsDL.same ?_); first | refine oK c1 rfl rfl rfl ?_) | refine MvQ.stay ?_)
    (repeat' first | (refine Owe.same ?_; first | refine Owe.o ?_ | refine Owe.mk ?_ ?_) | (refine Fork.same ?_; (first | refine fkD ?_ ?_ | refine fkN ?_ ?_ | refine fkM ?_ ?_) <;> intro h) | refine MvQ.stay ?_)
    refine Sat.lp (fun ((b, o) : Nat × Option (List Int)) => ⟨[(9, vi .i64 b), (8, nilO o), (2, .c (.rp (siD s))), (6, .c (.bp 0 0))], [(0, .box (diC s t))], 1⟩) (fun ((b, o) : Nat × Option (List Int)) => b ≤ N ∧ o = clK s t s.tk.length b) (fun ((b, _) : Nat × Option (List Int)) => N - b) (1, none) [0] ⟨hpos, hst⟩ ?_ ?_
    · (refine qis ?_ ?_ <;> (repeat' first | exact rfl | (refine qS ?_; constructor)))
    · intro ⟨b, o⟩ ⟨hb, ho⟩
      rcases o with _ | m
      · rcases Nat.lt_or_eq_of_le hb with hbl | rfl
        rotate_left
        · rw [← ho] at hq
          (repeat' first | (refine Owe.same ?_; first | refine Owe.o ?_ | refine Owe.mk ?_ ?_) | (refine Fork.same ?_; (first | refine fkY ?_ | refine fkF ?_ | ((first | refine fkD ?_ ?_ | refine fkN ?_ ?_ | refine fkM ?_ ?_) <;> intro h))) | ((first | refine OpsL.same ?_ | refine OpsDL.same ?_); first | refine oK C152 rfl rfl rfl ?_) | refine MvQ.stay ?_)
          subst hq
          (refine rqK rfl ?_; (repeat' first | exact rfl | (refine qS ?_; constructor)))
        · (repeat' first | (refine Owe.same ?_; first | refine Owe.o ?_ | refine Owe.mk ?_ ?_) | (refine Fork.same ?_; (first | refine fkD ?_ ?_ | refine fkN ?_ ?_ | refine fkM ?_ ?_) <;> intro h) | refine MvQ.stay ?_)
          rotate_left
          · rw [hshl] at h; omega
          · refine Sat.nilS 10 3 1 (fun i => r1 (([] : List Int).getD i 0)) rfl ?_
            refine Sat.lp (fun i : Nat => ⟨[(33, vi .i64 i), (32, vi .i64 s.tk.length), (10, .c (.ms 1 (fltL (fun i => b.testBit i) i).length)), (9, vi .i64 b), (8, nilO none), (2, .c (.rp (siD s))), (6, .c (.bp 0 0))], [(1, rowv 3 1 r1 0 (fltL (fun i => b.testBit i) i)), (0, .box (diC s t))], 2⟩)
              (fun i => i ≤ s.tk.length) (fun i => s.tk.length - i) 0 [0, 1] (Nat.zero_le _) ?_ ?_
            · (refine qis ?_ ?_ <;> (repeat' first | exact rfl | (refine qS ?_; constructor)))
            · intro i hi
              have hfl := fltL_len (fun i => b.testBit i) i
              have hfs := fltL_succ (fun i => b.testBit i) i
              refine Fork.dec (fun hli => ?_) (fun hli => ?_)
              · have hli : i < s.tk.length := by omega
                have htb := bit_i64 (b := b) (i := i) (by omega) (by omega)
                (repeat' first | (refine Owe.same ?_; first | refine Owe.o ?_ | refine Owe.mk ?_ ?_) | (refine Fork.same ?_; (first | refine fkD ?_ ?_ | refine fkN ?_ ?_ | refine fkM ?_ ?_) <;> intro h) | refine MvQ.stay ?_)
                · have h : decide _ = true := decide_eq_true h
                  rw [htb] at h
                  rw [if_pos h] at hfs
                  refine again (i + 1) [0, 2] hli (by omega) ?_
                  (refine qis ?_ ?_ <;> (repeat' first | exact rfl | (refine qS ?_; constructor)))
                  · rw [hfs]; simp
                  · exact hfs
                · have h : decide _ = false := decide_eq_false h
                  rw [htb] at h
                  rw [if_neg (by rw [h]; decide)] at hfs
                  refine again (i + 1) [0, 1] hli (by omega) ?_
                  (refine qis ?_ ?_ <;> (repeat' first | exact rfl | (refine qS ?_; constructor)))
                  · rw [hfs]
                  · rw [hfs]
              · have : i = s.tk.length := by omega
                subst this
                have hsl : (subL s.tk.length b).length ≤ s.tk.length := hfl
                have c3 := C158b (g := 144) (ds := diD s t) (l := subL s.tk.length b) (f := fun i => decide ((subL s.tk.length b).getD i 0 ∈ t.d)) (fun i hi => C144 ht) (by omega)
                rw [anyN_mem (p := fun n => decide (n ∈ t.d))] at c3
                change PFD Tryz.prog 158 _ (vbl (dnB t (subL s.tk.length b))) at c3
                have c4 := fun hd => C159 hs.t (subL s.tk.length b).length hO (SetOk.sub (b := b) hd) (Nat.le_refl _)
                change dnB t (subL s.tk.length b) = false → PFD Tryz.prog 159 _ (vbl (tgB s t (subL s.tk.length b))) at c4
                have hnx : clK s t s.tk.length (b + 1) = if smO (clK s t s.tk.length b) (subL s.tk.length b) = true ∧ clB s t (subL s.tk.length b) = true then some (subL s.tk.length b) else clK s t s.tk.length b := rfl
                rw [← ho] at hnx
                (repeat' first | (refine Owe.same ?_; first | refine Owe.o ?_ | refine Owe.mk ?_ ?_) | (refine Fork.same ?_; (first | refine fkD ?_ ?_ | refine fkN ?_ ?_ | refine fkM ?_ ?_) <;> intro h) | refine MvQ.stay ?_)
                refine OpsL.frz 10 _ rfl rfl (Nat.le_refl _) ?_
                refine OpsL.frz 63 _ rfl rfl (Nat.le_refl _) ?_
                rcases hd : dnB t (subL s.tk.length b) with _ | _
                · rw [hd] at c3
                  have c4 := c4 hd
                  rw [clB, hd] at hnx
                  rcases hg : tgB s t (subL s.tk.length b) with _ | _
                  · rw [hg] at c4 hnx
                    rw [if_pos ⟨rfl, rfl⟩] at hnx
                    (repeat' first | (refine Owe.same ?_; first | refine Owe.o ?_ | refine Owe.mk ?_ ?_) | (refine Fork.same ?_; (first | refine fkY ?_ | refine fkF ?_ | ((first | refine fkD ?_ ?_ | refine fkN ?_ ?_ | refine fkM ?_ ?_) <;> intro h))) | ((first | refine OpsL.same ?_ | refine OpsDL.same ?_); first | refine oK c3 rfl rfl rfl ?_) | refine MvQ.stay ?_)
                    (repeat' first | (refine Owe.same ?_; first | refine Owe.o ?_ | refine Owe.mk ?_ ?_) | (refine Fork.same ?_; (first | refine fkY ?_ | refine fkF ?_ | ((first | refine fkD ?_ ?_ | refine fkN ?_ ?_ | refine fkM ?_ ?_) <;> intro h))) | ((first | refine OpsL.same ?_ | refine OpsDL.same ?_); first | refine oK c4 rfl rfl rfl ?_) | refine MvQ.stay ?_)
                    refine again (b + 1, some (subL s.tk.length b)) [0] ⟨hbl, hnx.symm⟩ (by show N - (b + 1) < N - b; omega) ?_
                    (refine qis ?_ ?_ <;> (repeat' first | exact rfl | (refine qS ?_; constructor)))
                  · rw [hg] at c4 hnx
                    rw [if_neg (by simp)] at hnx
                    (repeat' first | (refine Owe.same ?_; first | refine Owe.o ?_ | refine Owe.mk ?_ ?_) | (refine Fork.same ?_; (first | refine fkY ?_ | refine fkF ?_ | ((first | refine fkD ?_ ?_ | refine fkN ?_ ?_ | refine fkM ?_ ?_) <;> intro h))) | ((first | refine OpsL.same ?_ | refine OpsDL.same ?_); first | refine oK c3 rfl rfl rfl ?_) | refine MvQ.stay ?_)
                    (repeat' first | (refine Owe.same ?_; first | refine Owe.o ?_ | refine Owe.mk ?_ ?_) | (refine Fork.same ?_; (first | refine fkY ?_ | refine fkF ?_ | ((first | refine fkD ?_ ?_ | refine fkN ?_ ?_ | refine fkM ?_ ?_) <;> intro h))) | ((first | refine OpsL.same ?_ | refine OpsDL.same ?_); first | refine oK c4 rfl rfl rfl ?_) | refine MvQ.stay ?_)
                    refine again (b + 1, none) [0] ⟨hbl, hnx.symm⟩ (by show N - (b + 1) < N - b; omega) ?_
                    (refine qis ?_ ?_ <;> (repeat' first | exact rfl | (refine qS ?_; constructor)))
                · rw [hd] at c3
                  rw [clB, hd, if_neg (by simp)] at hnx
                  (repeat' first | (refine Owe.same ?_; first | refine Owe.o ?_ | refine Owe.mk ?_ ?_) | (refine Fork.same ?_; (first | refine fkY ?_ | refine fkF ?_ | ((first | refine fkD ?_ ?_ | refine fkN ?_ ?_ | refine fkM ?_ ?_) <;> intro h))) | ((first | refine OpsL.same ?_ | refine OpsDL.same ?_); first | refine oK c3 rfl rfl rfl ?_) | refine MvQ.stay ?_)
                  refine again (b + 1, none) [0] ⟨hbl, hnx.symm⟩ (by show N - (b + 1) < N - b; omega) ?_
                  (refine qis ?_ ?_ <;> (repeat' first | exact rfl | (refine qS ?_; constructor)))
      · rcases Nat.lt_or_eq_of_le hb with hbl | rfl
        rotate_left
        · rw [← ho] at hq
          have hm := clK_len ho.symm
          (repeat' first | (refine Owe.same ?_; first | refine Owe.o ?_ | refine Owe.mk ?_ ?_) | (refine Fork.same ?_; (first | refine fkY ?_ | refine fkF ?_ | ((first | refine fkD ?_ ?_ | refine fkN ?_ ?_ | refine fkM ?_ ?_) <;> intro h))) | ((first | refine OpsL.same ?_ | refine OpsDL.same ?_); first | refine oK C152 rfl rfl rfl ?_) | refine MvQ.stay ?_)
          subst hq
          (refine rqK rfl ?_; (repeat' first | exact rfl | (refine qS ?_; constructor)))
        · (repeat' first | (refine Owe.same ?_; first | refine Owe.o ?_ | refine Owe.mk ?_ ?_) | (refine Fork.same ?_; (first | refine fkD ?_ ?_ | refine fkN ?_ ?_ | refine fkM ?_ ?_) <;> intro h) | refine MvQ.stay ?_)
          rotate_left
          · rw [hshl] at h; omega
          · refine Sat.nilS 10 3 1 (fun i => r1 (([] : List Int).getD i 0)) rfl ?_
            refine Sat.lp (fun i : Nat => ⟨[(33, vi .i64 i), (32, vi .i64 s.tk.length), (10, .c (.ms 1 (fltL (fun i => b.testBit i) i).length)), (9, vi .i64 b), (8, nilO (some m)), (2, .c (.rp (siD s))), (6, .c (.bp 0 0))], [(1, rowv 3 1 r1 0 (fltL (fun i => b.testBit i) i)), (0, .box (diC s t))], 2⟩)
              (fun i => i ≤ s.tk.length) (fun i => s.tk.length - i) 0 [0, 1] (Nat.zero_le _) ?_ ?_
            · (refine qis ?_ ?_ <;> (repeat' first | exact rfl | (refine qS ?_; constructor)))
            · intro i hi
              have hfl := fltL_len (fun i => b.testBit i) i
              have hfs := fltL_succ (fun i => b.testBit i) i
              refine Fork.dec (fun hli => ?_) (fun hli => ?_)
              · have hli : i < s.tk.length := by omega
                have htb := bit_i64 (b := b) (i := i) (by omega) (by omega)
                (repeat' first | (refine Owe.same ?_; first | refine Owe.o ?_ | refine Owe.mk ?_ ?_) | (refine Fork.same ?_; (first | refine fkD ?_ ?_ | refine fkN ?_ ?_ | refine fkM ?_ ?_) <;> intro h) | refine MvQ.stay ?_)
                · have h : decide _ = true := decide_eq_true h
                  rw [htb] at h
                  rw [if_pos h] at hfs
                  refine again (i + 1) [0, 2] hli (by omega) ?_
                  (refine qis ?_ ?_ <;> (repeat' first | exact rfl | (refine qS ?_; constructor)))
                  · rw [hfs]; simp
                  · exact hfs
                · have h : decide _ = false := decide_eq_false h
                  rw [htb] at h
                  rw [if_neg (by rw [h]; decide)] at hfs
                  refine again (i + 1) [0, 1] hli (by omega) ?_
                  (refine qis ?_ ?_ <;> (repeat' first | exact rfl | (refine qS ?_; constructor)))
                  · rw [hfs]
                  · rw [hfs]
              · have : i = s.tk.length := by omega
                subst this
                have hsl : (subL s.tk.length b).length ≤ s.tk.length := hfl
                have c3 := C158b (g := 144) (ds := diD s t) (l := subL s.tk.length b) (f := fun i => decide ((subL s.tk.length b).getD i 0 ∈ t.d)) (fun i hi => C144 ht) (by omega)
                rw [anyN_mem (p := fun n => decide (n ∈ t.d))] at c3
                change PFD Tryz.prog 158 _ (vbl (dnB t (subL s.tk.length b))) at c3
                have c4 := fun hd => C159 hs.t (subL s.tk.length b).length hO (SetOk.sub (b := b) hd) (Nat.le_refl _)
                change dnB t (subL s.tk.length b) = false → PFD Tryz.prog 159 _ (vbl (tgB s t (subL s.tk.length b))) at c4
                have hnx : clK s t s.tk.length (b + 1) = if smO (clK s t s.tk.length b) (subL s.tk.length b) = true ∧ clB s t (subL s.tk.length b) = true then some (subL s.tk.length b) else clK s t s.tk.length b := rfl
                rw [← ho] at hnx
                have hm := clK_len ho.symm
                have c5 := C161 (l := subL s.tk.length b) (m := m) ⟨by omega, by omega⟩
                (repeat' first | (refine Owe.same ?_; first | refine Owe.o ?_ | refine Owe.mk ?_ ?_) | (refine Fork.same ?_; (first | refine fkD ?_ ?_ | refine fkN ?_ ?_ | refine fkM ?_ ?_) <;> intro h) | refine MvQ.stay ?_)
                refine OpsL.frz 10 _ rfl rfl (Nat.le_refl _) ?_
                (repeat' first | (refine Owe.same ?_; first | refine Owe.o ?_ | refine Owe.mk ?_ ?_) | (refine Fork.same ?_; (first | refine fkY ?_ | refine fkF ?_ | ((first | refine fkD ?_ ?_ | refine fkN ?_ ?_ | refine fkM ?_ ?_) <;> intro h))) | ((first | refine OpsL.same ?_ | refine OpsDL.same ?_); first | refine pK C160 rfl rfl ?_ | refine pK c5 rfl rfl ?_ | refine pK C148 rfl rfl ?_) | refine MvQ.stay ?_)
                · have hs1 : smO (some m) (subL s.tk.length b) = true := decide_eq_true h
                  rw [hs1] at hnx
                  rcases hd : dnB t (subL s.tk.length b) with _ | _
                  · rw [hd] at c3
                    have c4 := c4 hd
                    rw [clB, hd] at hnx
                    rcases hg : tgB s t (subL s.tk.length b) with _ | _
                    · rw [hg] at c4 hnx
                      rw [if_pos ⟨rfl, rfl⟩] at hnx
                      (repeat' first | (refine Owe.same ?_; first | refine Owe.o ?_ | refine Owe.mk ?_ ?_) | (refine Fork.same ?_; (first | refine fkY ?_ | refine fkF ?_ | ((first | refine fkD ?_ ?_ | refine fkN ?_ ?_ | refine fkM ?_ ?_) <;> intro h))) | ((first | refine OpsL.same ?_ | refine OpsDL.same ?_); first | refine oK c3 rfl rfl rfl ?_ | refine oK c4 rfl rfl rfl ?_) | refine MvQ.stay ?_)
                      refine again (b + 1, some (subL s.tk.length b)) [0] ⟨hbl, hnx.symm⟩ (by show N - (b + 1) < N - b; omega) ?_
                      (refine qis ?_ ?_ <;> (repeat' first | exact rfl | (refine qS ?_; constructor)))
                    · rw [hg] at c4 hnx
                      rw [if_neg (by simp)] at hnx
                      (repeat' first | (refine Owe.same ?_; first | refine Owe.o ?_ | refine Owe.mk ?_ ?_) | (refine Fork.same ?_; (first | refine fkY ?_ | refine fkF ?_ | ((first | refine fkD ?_ ?_ | refine fkN ?_ ?_ | refine fkM ?_ ?_) <;> intro h))) | ((first | refine OpsL.same ?_ | refine OpsDL.same ?_); first | refine oK c3 rfl rfl rfl ?_ | refine oK c4 rfl rfl rfl ?_) | refine MvQ.stay ?_)
                      refine again (b + 1, some m) [0] ⟨hbl, hnx.symm⟩ (by show N - (b + 1) < N - b; omega) ?_
                      (refine qis ?_ ?_ <;> (repeat' first | exact rfl | (refine qS ?_; constructor)))
                  · rw [hd] at c3
                    rw [clB, hd, if_neg (by simp)] at hnx
                    (repeat' first | (refine Owe.same ?_; first | refine Owe.o ?_ | refine Owe.mk ?_ ?_) | (refine Fork.same ?_; (first | refine fkY ?_ | refine fkF ?_ | ((first | refine fkD ?_ ?_ | refine fkN ?_ ?_ | refine fkM ?_ ?_) <;> intro h))) | ((first | refine OpsL.same ?_ | refine OpsDL.same ?_); first | refine oK c3 rfl rfl rfl ?_) | refine MvQ.stay ?_)
                    refine again (b + 1, some m) [0] ⟨hbl, hnx.symm⟩ (by show N - (b + 1) < N - b; omega) ?_
                    (refine qis ?_ ?_ <;> (repeat' first | exact rfl | (refine qS ?_; constructor)))
                · have hs1 : smO (some m) (subL s.tk.length b) = false := decide_eq_false h
                  rw [hs1, if_neg (by simp)] at hnx
                  refine again (b + 1, some m) [0] ⟨hbl, hnx.symm⟩ (by show N - (b + 1) < N - b; omega) ?_
                  (refine qis ?_ ?_ <;> (repeat' first | exact rfl | (refine qS ?_; constructor)))
  · rw [if_neg h0] at hq
    generalize onE s t = e at *
    subst hq
    refine pi2 fn71 ?_
    (repeat' first | (refine Owe.same ?_; first | refine Owe.o ?_ | refine Owe.mk ?_ ?_) | (refine Fork.same ?_; (first | refine fkY ?_ | refine fkF ?_ | ((first | refine fkD ?_ ?_ | refine fkN ?_ ?_ | refine fkM ?_ ?_) <;> intro h))) | ((first | refine OpsL.same ?_ | refine OpsDL.same ?_); first | refine oK c1 rfl rfl rfl ?_) | refine MvQ.stay ?_)
    (refine rqK rfl ?_; (repeat' first | exact rfl | (refine qS ?_; constructor)))
abbrev exSi : Si := ⟨[⟨⟨#[118, 97, 108, 118, 101]⟩, 1, 20, 30, 4, 50, 0, 300, []⟩, ⟨⟨#[112, 114, 111, 98, 101]⟩, 2, 10, 10, 1, 30, 80, 90, []⟩, ⟨⟨#[99, 108, 111, 115, 101]⟩, 1, 10, 20, 2, 40, 0, 400, [0]⟩], [[0, 10, 20], [10, 0, 10], [20, 10, 0]], [30, 40, 50], [(100, 199, 5)], 1, 2, 20, 400⟩
abbrev exSt : St8 := ⟨0, 0, 300, 6, []⟩
abbrev exSt1 : St8 := ⟨1, 30, 250, 2, [0]⟩
theorem PFD.res {P : Program} {f : FuncId} {args : List V} {v v' : V} (h : PFD P f args v) (hr : RI v v') : PFD P f args v' :=
  ⟨h.h.1, h.h.2.1, fun Γ w us h1 h2 h3 => (h.h.2.2 Γ w us h1 h2 h3).mono fun e w' ⟨u, Γ', q1, q2, q3⟩ => ⟨u, Γ', q1, hr _ _ _ q2, q3⟩⟩
theorem DI.nil (s : Nat) (f : Nat → List D) : DI (.v (.slice none 0 0)) (.sl s 0 f) := fun I w u h => by
  cases h; exact .slE _ _ _ _
abbrev litD (s : Nat) (l : List (List D)) : D := .sl s l.length fun i => l.getD i []
theorem DI.lit {s : Nat} {l : List (List D)} {g : Nat → List D} (h : ∀ i, i < l.length → DIs (l.getD i []) (g i)) : DI (litD s l) (.sl s l.length g) := DI.sl h
abbrev exRaw : List D := [litD 9 [[.v (.string ⟨#[118, 97, 108, 118, 101]⟩), dI 1, dI 20, dI 30, dI 4, dI 50, dI 0, dI 300, .v (.slice none 0 0)], [.v (.string ⟨#[112, 114, 111, 98, 101]⟩), dI 2, dI 10, dI 10, dI 1, dI 30, dI 80, dI 90, .v (.slice none 0 0)], [.v (.string ⟨#[99, 108, 111, 115, 101]⟩), dI 1, dI 10, dI 20, dI 2, dI 40, dI 0, dI 400, litD 1 [[dI 0]]]],
  litD 1 [[litD 1 [[dI 0], [dI 10], [dI 20]]], [litD 1 [[dI 10], [dI 0], [dI 10]]], [litD 1 [[dI 20], [dI 10], [dI 0]]]], litD 1 [[dI 30], [dI 40], [dI 50]], litD 3 [[dI 100, dI 199, dI 5]], dI 1, dI 2, dI 20, dI 400]
theorem DIs.of {ds es : List D} (h : ds = es) : DIs ds es := h ▸ DIs.refl ds
theorem ex3I {a b c : Int} : DI (litD 1 [[dI a], [dI b], [dI c]]) (intsD [a, b, c]) := DI.sl fun i hi => by
  match i, hi with
  | 0, _ => exact DIs.refl _
  | 1, _ => exact DIs.refl _
  | 2, _ => exact DIs.refl _
theorem C107 : PFD Tryz.prog 107 [] (siv exSi) := by
  refine PFD.res (v := .agg [.d (litD 9 [[.v (.string ⟨#[118, 97, 108, 118, 101]⟩), dI 1, dI 20, dI 30, dI 4, dI 50, dI 0, dI 300, .v (.slice none 0 0)], [.v (.string ⟨#[112, 114, 111, 98, 101]⟩), dI 2, dI 10, dI 10, dI 1, dI 30, dI 80, dI 90, .v (.slice none 0 0)], [.v (.string ⟨#[99, 108, 111, 115, 101]⟩), dI 1, dI 10, dI 20, dI 2, dI 40, dI 0, dI 400, litD 1 [[dI 0]]]]), .d (litD 1 [[litD 1 [[dI 0], [dI 10], [dI 20]]], [litD 1 [[dI 10], [dI 0], [dI 10]]], [litD 1 [[dI 20], [dI 10], [dI 0]]]]), .d (litD 1 [[dI 30], [dI 40], [dI 50]]), .d (litD 3 [[dI 100, dI 199, dI 5]]), .d (dI 1), .d (dI 2), .d (dI 20), .d (dI 400)]) ?_ (RI.aggI (ds := exRaw) (es := siD exSi) ?_)
  · refine pi1 fn107 ?_
    (repeat' first | (refine Owe.same ?_; first | refine Owe.o ?_ | refine Owe.mk ?_ ?_) | (refine Fork.same ?_; (first | refine fkD ?_ ?_ | refine fkN ?_ ?_ | refine fkM ?_ ?_) <;> intro h) | refine MvQ.stay ?_)
    (refine rqK rfl ?_; (repeat' first | exact rfl | (refine qS ?_; constructor)))
  · refine .cons (DI.sl fun i hi => ?_) (.cons (DI.sl fun i hi => ?_) (.cons ex3I (.cons (DI.sl fun i hi => ?_) (DIs.refl _))))
    · match i, hi with
      | 0, _ => exact .cons (DI.refl _) (.cons (DI.refl _) (.cons (DI.refl _) (.cons (DI.refl _) (.cons (DI.refl _) (.cons (DI.refl _) (.cons (DI.refl _) (.cons (DI.refl _) (.cons (DI.nil _ _) .nil))))))))
      | 1, _ => exact .cons (DI.refl _) (.cons (DI.refl _) (.cons (DI.refl _) (.cons (DI.refl _) (.cons (DI.refl _) (.cons (DI.refl _) (.cons (DI.refl _) (.cons (DI.refl _) (.cons (DI.nil _ _) .nil))))))))
      | 2, _ => exact .cons (DI.refl _) (.cons (DI.refl _) (.cons (DI.refl _) (.cons (DI.refl _) (.cons (DI.refl _) (.cons (DI.refl _) (.cons (DI.refl _) (.cons (DI.refl _) (.cons (DI.sl fun i hi => by
          match i, hi with
          | 0, _ => exact DIs.refl _) .nil))))))))
    · match i, hi with
      | 0, _ => exact .cons ex3I .nil
      | 1, _ => exact .cons ex3I .nil
      | 2, _ => exact .cons ex3I .nil
    · match i, hi with
      | 0, _ => exact DIs.refl _
def grS (s : Si) : Nat → St8 → List Int → List Int × Int → List Int × Int
  | 0, _, p, b => updP s p b
  | f + 1, t, p, b => (List.range s.tk.length).foldl (fun b (k : Nat) => if spE s t (k : Int) = 0 then grS s f (spS s t (k : Int)) (p ++ [(k : Int)]) b else b) (updP s p b)
theorem grS_eq {s : Si} : ∀ (f : Nat) (t : St8) (p : List Int) (b : List Int × Int), grwF s f t p b = grS s f t p b
  | 0, t, p, b => by rw [grwF, grS]
  | f + 1, t, p, b => by
    have key : ∀ k, grwK s f t p (updP s p b) k = (List.range k).foldl (fun b (k : Nat) => if spE s t (k : Int) = 0 then grS s f (spS s t (k : Int)) (p ++ [(k : Int)]) b else b) (updP s p b) := fun k => by
      induction k with
      | zero => rw [grwK]; rfl
      | succ k ih =>
        rw [grwK, List.range_succ, List.foldl_append, ← ih, grS_eq f]
        rfl
    rw [grwF, grS, key]
theorem C108 : PFD Tryz.prog 108 [] (stv exSt) := by
  refine pi1 fn108 ?_
  (repeat' first | (refine Owe.same ?_; first | refine Owe.o ?_ | refine Owe.mk ?_ ?_) | (refine Fork.same ?_; (first | refine fkD ?_ ?_ | refine fkN ?_ ?_ | refine fkM ?_ ?_) <;> intro h) | refine MvQ.stay ?_)
  (refine rqK rfl ?_; (repeat' first | exact rfl | (refine qS ?_; constructor)))
theorem exSm : SiSm exSi := ⟨by decide, by decide, by decide, by decide, by decide, by decide⟩
theorem ex3 : lrE exSi exSt1 = (170, 0) := by decide +kernel
theorem ex4 : orE exSi exSt = 0 := by decide +kernel
theorem ex5 : bestP exSi exSt = ([0, 2], 90) := by
  rw [bestP, grS_eq]; decide +kernel
end Go.Pw
set_option linter.unusedVariables false
set_option maxHeartbeats 2000000
set_option maxRecDepth 100000
namespace Go.Pw
open Go Go.Proofs
end Go.Pw

set_option linter.unusedSimpArgs false
set_option linter.unusedVariables false
set_option maxHeartbeats 4000000
namespace Go.Pw
set_option maxRecDepth 2000
open Go Go.Proofs A1 A2 A3 A4
def stK (s : Si) (t : St8) (l : List Int) : Nat → St8
  | 0 => t
  | k + 1 => spS s (stK s t l k) (l.getD k 0)
def sfK (s : Si) (t : St8) (l : List Int) (k : Nat) : Int := spE s (stK s t l k) (l.getD k 0)
def prE (s : Si) (t : St8) (l : List Int) : Int × Int := eachN (sfK s t l) 0 l.length
theorem stK_ok {s : Si} {t : St8} {l : List Int} (h : OnOk s t) : ∀ {k : Nat}, (∀ i, i < k → sfK s t l i = 0) → OnOk s (stK s t l k)
  | 0, _ => h
  | k + 1, hk => by
    have ih := stK_ok h (k := k) fun i hi => hk i (by omega)
    obtain ⟨⟨e, _⟩, h1, _⟩ := spS_ok ih (hk k (by omega))
    rw [stK, e]; exact h1
theorem prE_tk {s : Si} {t : St8} {l : List Int} (hO : OnOk s t) (h : (prE s t l).2 = 0) : tkNs s l := fun k hk => by
  have h1 := eachN_ok.1 h
  have h2 := spS_ok (stK_ok hO (k := k) fun i hi => h1 i (by omega)) (h1 k hk)
  have := h2.1.2.2.2
  omega
theorem C217 {s : Si} {n a : Int} : (s.ti.length ≤ 1000000 ∧ (∀ k, k < s.ti.length → isN (s.ti.getD k (0, 0, 0)).2.2) ∧ -1000000000 ≤ n ∧ n ≤ 1000000000) → PFD Tryz.prog 217 [siv s, vi .i64 n, vi .i64 a] (vi .i64 (swF s.ti n a)) := fun ⟨hl, hs, hn⟩ => by
  obtain ⟨q, hq⟩ : ∃ q, q = swF s.ti n a := ⟨_, rfl⟩
  rw [← hq]
  rw [swF] at hq
  refine pi1 fn217 ?_
  (repeat' first | (refine Owe.same ?_; first | refine Owe.o ?_ | refine Owe.mk ?_ ?_) | (refine Fork.same ?_; (first | refine fkD ?_ ?_ | refine fkN ?_ ?_ | refine fkM ?_ ?_) <;> intro h) | refine MvQ.stay ?_)
  · rw [if_pos h] at hq; subst hq; (refine rqK rfl ?_; (repeat' first | exact rfl | (refine qS ?_; constructor)))
  · rw [if_neg h] at hq
    refine Sat.lp0 (fun k : Nat => [(7, vi .i64 k), (3, .c (.rp (siD s))), (1, vi .i64 n), (2, vi .i64 a)]) (fun k => k ≤ s.ti.length ∧ q = swL n a (s.ti.drop k)) (fun k => s.ti.length - k) 0 ⟨Nat.zero_le _, hq⟩ (by ((first | refine qen ?_ | refine qvs ?_ | refine qeq ?_ | refine qst ?_ | refine qv ?_ | refine qc ?_ | refine qe ?_ | refine qcs ?_ | skip); (repeat' first | exact rfl | (refine qS ?_; constructor)))) ?_
    intro k hk
    refine Fork.dec (fun hlt => ?_) (fun hlt => ?_)
    · have hlt : k < s.ti.length := by omega
      have h1 : isN (s.ti.getD k (0, 0, 0)).2.2 := hs k hlt
      have e := swL_drop n a s.ti k hlt
      rw [← hk.2] at e
      (repeat' first | (refine Owe.same ?_; first | refine Owe.o ?_ | refine Owe.mk ?_ ?_) | (refine Fork.same ?_; (first | refine fkD ?_ ?_ | refine fkN ?_ ?_ | refine fkM ?_ ?_) <;> intro h) | ((first | refine OpsL.same ?_ | refine OpsDL.same ?_); first | refine pK C46 rfl rfl ?_) | refine MvQ.stay ?_)
      · have h : (s.ti.getD k (0, 0, 0)).1 ≤ a ∧ a ≤ (s.ti.getD k (0, 0, 0)).2.1 := h
        rw [if_pos h] at e; subst e
        (refine rqK rfl ?_; (repeat' first | exact rfl | (refine qS ?_; constructor)))
      · have h : ¬ ((s.ti.getD k (0, 0, 0)).1 ≤ a ∧ a ≤ (s.ti.getD k (0, 0, 0)).2.1) := h
        rw [if_neg h] at e
        exact again0 (k + 1) ⟨hlt, e⟩ (by omega) (by ((first | refine qen ?_ | refine qvs ?_ | refine qeq ?_ | refine qst ?_ | refine qv ?_ | refine qc ?_ | refine qe ?_ | refine qcs ?_ | skip); (repeat' first | exact rfl | (refine qS ?_; constructor))))
    · have e := hk.2
      rw [List.drop_of_length_le (by omega)] at e
      (repeat' first | (refine Owe.same ?_; first | refine Owe.o ?_ | refine Owe.mk ?_ ?_) | (refine Fork.same ?_; (first | refine fkD ?_ ?_ | refine fkN ?_ ?_ | refine fkM ?_ ?_) <;> intro h) | refine MvQ.stay ?_)
      subst e
      (refine rqK rfl ?_; (repeat' first | exact rfl | (refine qS ?_; constructor)))
theorem C140 {s : Si} {t : St8} : DvB s t → PFD Tryz.prog 140 [siv s, stv t] (.agg [int (hmT s t), int (hmT s t * s.swim)]) := fun h => by
  have hb := hmT_bd h
  have h1 := h.pl
  have h2 := h.ok.m
  have h3 := (h.ok.r t.p.toNat (by omega)).1.1
  have h4 := h.ok.e
  have c1 := C217 (s := s) (n := s.ho.getD t.p.toNat 0) (a := t.t) ⟨by omega, fun k hk => (h.ok.u k hk).1.2, by omega⟩
  obtain ⟨n, hn⟩ : ∃ n, n = hmT s t := ⟨_, rfl⟩
  rw [← hn] at hb ⊢
  change PFD Tryz.prog 217 _ (vi .i64 (hmT s t)) at c1
  rw [← hn] at c1
  have hm := mbd (a := n) (A := 20000) (by omega) (b := s.swim) (B := 10000) (by omega)
  refine pi1 fn140 ?_
  (repeat' first | (refine Owe.same ?_; first | refine Owe.o ?_ | refine Owe.mk ?_ ?_) | (refine Fork.same ?_; (first | refine fkD ?_ ?_ | refine fkN ?_ ?_ | refine fkM ?_ ?_) <;> intro h) | ((first | refine OpsL.same ?_ | refine OpsDL.same ?_); first | refine pK c1 rfl rfl ?_) | refine MvQ.stay ?_)
  (refine rqK rfl ?_; (repeat' first | exact rfl | (refine qS ?_; constructor)))
theorem C62 {s : Si} {t : St8} : DvB s t → PFD Tryz.prog 62 [siv s, stv t] (vbl (reB s t)) := fun h => by
  have hb := hmT_bd h
  have h1 := h.tm
  have h2 := h.en
  have h4 := h.ok.e
  have hm := mbd (a := hmT s t) (A := 20000) (by omega) (b := s.swim) (B := 10000) (by omega)
  have c1 := C140 h
  refine pi1 fn62 ?_
  (repeat' first | (refine Owe.same ?_; first | refine Owe.o ?_ | refine Owe.mk ?_ ?_) | (refine Fork.same ?_; (first | refine fkD ?_ ?_ | refine fkN ?_ ?_ | refine fkM ?_ ?_) <;> intro h) | ((first | refine OpsL.same ?_ | refine OpsDL.same ?_); first | refine pK c1 rfl rfl ?_) | refine MvQ.stay ?_)
  · (refine rqK rfl ?_; (repeat' first | exact rfl | (refine qS ?_; constructor)))
    rw [reB]; exact decide_eq_decide.2 ⟨fun hh => ⟨h, hh⟩, fun hh => hh.2⟩
  · (refine rqK rfl ?_; (repeat' first | exact rfl | (refine qS ?_; constructor)))
    have hf : reB s t = false := decide_eq_false fun hh => h hh.1
    exact hf
end Go.Pw
set_option linter.unusedSimpArgs false
set_option linter.unusedVariables false
set_option maxHeartbeats 4000000
namespace Go.Pw
set_option maxRecDepth 2000
open Go Go.Proofs A1 A2 A3 A4
end Go.Pw

set_option linter.unusedSimpArgs false
set_option linter.unusedVariables false
set_option maxHeartbeats 4000000
namespace Go.Pw
set_option maxRecDepth 2000
open Go Go.Proofs A1 A2 A3 A4
theorem OnOk.on {s : Si} {t : St8} (h : OnOk s t) (h0 : (siE s).2 = 0) : onE s t = 0 := by
  rw [onE_eq h0, rsE, if_pos (by have := h.pl; omega), if_pos ⟨⟨h.tm, h.en⟩, h.oil⟩]
  exact h.d
theorem nx_facts {s : Si} {t : St8} {n : Int} (h : OnOk s t) (he : spE s t n = 0) :
    (OnOk s (spS s t n) ∧ reB s (spS s t n) = true) ∧ t.t ≤ (spS s t n).t ∧ (spS s t n).w ≤ t.w ∧ (spS s t n).o ≤ t.o ∧ (spS s t n).d.length = t.d.length + 1 ∧ n ∉ t.d ∧ ∀ m, m ∈ (spS s t n).d ↔ m = n ∨ m ∈ t.d := by
  obtain ⟨⟨e, h1, h2, h3⟩, h4, h5⟩ := spS_ok h he
  rw [e]
  have hB := (h.ok.t n.toNat (by omega)).b
  have hsw := trT_bd (p := (tkA s n).p) h
  have h7 := h.ok.e
  obtain ⟨b5, b6, b7, b8, b9, b10⟩ := hB
  have m2 : 0 ≤ trT s t (tkA s n).p * s.swim := Int.mul_nonneg hsw.1 (by omega)
  have m3 : 0 ≤ (max (t.t + trT s t (tkA s n).p) (tkA s n).lo - (t.t + trT s t (tkA s n).p)) * s.idle := Int.mul_nonneg (by omega) (by omega)
  rw [spF, fst2, unb_ok (by decide), unb_ok (by decide)] at h2
  have hx : n ∉ t.d := by simpa using h2.1
  have hr : reB s (nxS s t n) = true := by
    rw [nxE, nxF, fst3, unl0 (by decide), unl0 (by decide), unb_ok (by decide)] at h1
    exact h1.2.2
  refine ⟨⟨h4, hr⟩, ?_, ?_, ?_, h5, hx, fun m => insI_mem⟩
  · show t.t ≤ max (t.t + trT s t (tkA s n).p) (tkA s n).lo + (tkA s n).d
    simp only [tkA] at *
    omega
  · show t.w - (trT s t (tkA s n).p * s.swim + (max (t.t + trT s t (tkA s n).p) (tkA s n).lo - (t.t + trT s t (tkA s n).p)) * s.idle + (tkA s n).w) ≤ t.w
    simp only [tkA] at *
    omega
  · show t.o - (tkA s n).o ≤ t.o
    simp only [tkA] at *
    omega
theorem stK_drop {s : Si} {t : St8} {l : List Int} (i : Nat) : ∀ j, stK s (stK s t l i) (l.drop i) j = stK s t l (i + j)
  | 0 => rfl
  | j + 1 => by
    rw [stK, stK_drop i j, ← Nat.add_assoc, stK]
    congr 1
    simp only [List.getD_eq_getElem?_getD, List.getElem?_drop]
theorem stK_mem {s : Si} {t : St8} {l : List Int} (hO : OnOk s t) (h : ∀ j, j < l.length → sfK s t l j = 0) : ∀ i j, i < j → j ≤ l.length → l.getD i 0 ∈ (stK s t l j).d := fun i j => by
  induction j with
  | zero => intro h1; omega
  | succ j ih =>
    intro h1 h2
    have h3 := (nx_facts (stK_ok hO (k := j) fun k hk => h k (by omega)) (h j (by omega))).2.2.2.2.2.2
    rw [stK, h3]
    rcases Nat.lt_succ_iff_lt_or_eq.1 h1 with h4 | rfl
    · exact .inr (ih h4 (by omega))
    · exact .inl rfl
theorem prE_nu {s : Si} {t : St8} {l : List Int} (hO : OnOk s t) (h : (prE s t l).2 = 0) : nuE s l = 0 := by
  have h1 := eachN_ok.1 h
  rw [nuE_ok]
  refine ⟨prE_tk hO h, ?_⟩
  rw [List.nodup_iff_pairwise_ne, List.pairwise_iff_getElem]
  intro i j hi hj hij e
  have h3 := (nx_facts (stK_ok hO (k := j) fun k hk => h1 k (by omega)) (h1 j hj)).2.2.2.2.2.1
  have h4 := stK_mem hO h1 i j hij (by omega)
  have ei : l.getD i 0 = l[i] := by rw [List.getD_eq_getElem?_getD, List.getElem?_eq_getElem hi]; rfl
  have ej : l.getD j 0 = l[j] := by rw [List.getD_eq_getElem?_getD, List.getElem?_eq_getElem hj]; rfl
  rw [ej, ← e, ← ei] at h3
  exact h3 h4
theorem split_at {l : List Int} {k : Nat} (hk : k < l.length) : l = l.take k ++ l.getD k 0 :: l.drop (k + 1) := by
  rw [List.getD_eq_getElem?_getD, List.getElem?_eq_getElem hk]
  show l = l.take k ++ l[k] :: l.drop (k + 1)
  rw [← List.drop_eq_getElem_cons hk, List.take_append_drop]
theorem wo_filter {l : List Int} {k : Nat} (h : l.Nodup) (hk : k < l.length) : wo l k = l.filter fun x => decide (x ≠ l.getD k 0) := by
  have hn := wo_not h hk
  obtain ⟨x, hx⟩ : ∃ x, x = l.getD k 0 := ⟨_, rfl⟩
  have e := split_at hk
  rw [← hx] at e hn ⊢
  have hw : wo l k = l.take k ++ l.drop (k + 1) := rfl
  rw [hw] at hn ⊢
  conv => rhs; rw [e]
  rw [List.filter_append, List.filter_cons_of_neg (by simp)]
  have h1 : ∀ y ∈ l.take k, decide (y ≠ x) = true := fun y hy => decide_eq_true fun e => hn (e ▸ List.mem_append_left _ hy)
  have h2 : ∀ y ∈ l.drop (k + 1), decide (y ≠ x) = true := fun y hy => decide_eq_true fun e => hn (e ▸ List.mem_append_right _ hy)
  rw [List.filter_eq_self.2 h1, List.filter_eq_self.2 h2]
theorem fst_le {a b c : Int} (h : fstE [cmpI a b, c] < 0) : a ≤ b := by
  rcases Int.lt_trichotomy a b with h1 | h1 | h1
  · omega
  · omega
  · rw [cmpI, if_neg (by omega), if_pos h1, fstE, if_neg (by decide)] at h
    omega
theorem fst_lt {a b c : Int} (h : a < b) : fstE [cmpI a b, c] < 0 := by
  rw [cmpI, if_pos h, fstE, if_neg (by decide)]; decide
theorem clK_some {s : Si} {t : St8} {n : Nat} : ∀ {N : Nat} {l : List Int}, clK s t n N = some l → (∃ b, b < N ∧ l = subL n b) ∧ clB s t l = true ∧ ∀ b, b < N → clB s t (subL n b) = true → l.length ≤ (subL n b).length
  | 0, l, h => by cases h
  | N + 1, l, h => by
    rw [clK] at h
    split at h
    · rename_i hh
      cases h
      refine ⟨⟨N, Nat.lt_succ_self _, rfl⟩, hh.2, fun b hb hc => ?_⟩
      rcases Nat.lt_succ_iff_lt_or_eq.1 hb with h3 | rfl
      · rcases ho : clK s t n N with _ | m
        · have : clK s t n N = none := ho
          have hall : ∀ {N b}, clK s t n N = none → b < N → clB s t (subL n b) = false := fun {N} => by
            induction N with
            | zero => intro b _ hb; omega
            | succ N ih =>
              intro b h4 h5
              rw [clK] at h4
              split at h4
              · cases h4
              · rename_i h6
                rcases Nat.lt_succ_iff_lt_or_eq.1 h5 with h7 | rfl
                · exact ih h4 h7
                · rcases hcb : clB s t (subL n b) with _ | _
                  · rfl
                  · exact absurd ⟨by rw [h4], hcb⟩ h6
          rw [hall this h3] at hc; cases hc
        · have h4 := (clK_some ho).2.2 b h3 hc
          have h5 := hh.1
          rw [ho] at h5
          have h5 := of_decide_eq_true h5
          have := fst_le h5
          omega
      · exact Nat.le_refl _
    · rename_i hh
      obtain ⟨⟨b, h1, h2⟩, h3, h4⟩ := clK_some h
      refine ⟨⟨b, by omega, h2⟩, h3, fun c hb hc => ?_⟩
      rcases Nat.lt_succ_iff_lt_or_eq.1 hb with h5 | rfl
      · exact h4 c h5 hc
      · rcases Nat.lt_or_ge (subL n c).length l.length with h6 | h6
        · refine absurd ⟨?_, hc⟩ hh
          rw [h]
          refine decide_eq_true ?_
          exact fst_lt (by omega)
        · exact h6
theorem acc_not {s : Si} {t : St8} {l : List Int} (hO : OnOk s t) (h : ∀ j, j < l.length → sfK s t l j = 0) : ∀ j, j < l.length → (∀ x ∈ t.d, x ∈ (stK s t l j).d) ∧ l.getD j 0 ∉ t.d := fun j hj => by
  have hsub : ∀ j, j < l.length → ∀ x ∈ t.d, x ∈ (stK s t l j).d := fun j => by
    induction j with
    | zero => intro _ x hx; exact hx
    | succ j ih =>
      intro hj x hx
      have h3 := (nx_facts (stK_ok hO (k := j) fun k hk => h k (by omega)) (h j (by omega))).2.2.2.2.2.2
      rw [stK, h3]
      exact .inr (ih (by omega) x hx)
  refine ⟨hsub j hj, fun hm => ?_⟩
  have h3 := (nx_facts (stK_ok hO (k := j) fun k hk => h k (by omega)) (h j hj)).2.2.2.2.2.1
  exact h3 (hsub j hj _ hm)
theorem togB_perm {s : Si} : ∀ (l : List Int) {t : St8} {m : List Int}, OnOk s t → (∀ j, j < l.length → sfK s t l j = 0) → m.Perm l → togB s m.length t m = true
  | [], t, m, _, _, hp => by
    obtain rfl := hp.eq_nil
    rfl
  | n :: l, t, m, hO, h, hp => by
    have hm : n ∈ m := hp.mem_iff.2 (List.mem_cons_self ..)
    obtain ⟨k, hk, e⟩ := List.getElem_of_mem hm
    have hg : m.getD k 0 = n := by rw [List.getD_eq_getElem?_getD, List.getElem?_eq_getElem hk]; exact e
    have hsp := split_at hk
    rw [hg] at hsp
    have hp2 : (wo m k).Perm l := by
      have h1 : m.Perm (n :: wo m k) := by
        conv => lhs; rw [hsp]
        exact List.perm_middle
      exact (h1.symm.trans hp).cons_inv
    have hz : spE s t n = 0 := h 0 (by simp)
    obtain ⟨⟨e1, h1, h2, _⟩, h3, _⟩ := spS_ok hO hz
    have hstep : ∀ j, j < l.length → sfK s (nxS s t n) l j = 0 := fun j hj => by
      have h4 := h (j + 1) (by simp; omega)
      rw [sfK] at h4 ⊢
      have e2 : stK s t (n :: l) (j + 1) = stK s (nxS s t n) l j := by
        have := stK_drop (s := s) (t := t) (l := n :: l) 1 j
        rw [Nat.add_comm 1 j] at this
        rw [← this]
        show stK s (spS s t n) l j = stK s (nxS s t n) l j
        rw [e1]
      rw [e2] at h4
      exact h4
    have hlen : m.length = l.length + 1 := by simpa using hp.length_eq
    have hwl : (wo m k).length = l.length := hp2.length_eq
    have ih := togB_perm l (t := nxS s t n) (m := wo m k) h3 hstep hp2
    rw [hwl] at ih
    rw [hlen, togB, Bool.or_eq_true]
    refine .inr (anyN_t hk ?_)
    rw [hg, ih, Bool.and_true, nowB, hg, h1, decide_eq_true rfl, Bool.and_true, Bool.not_eq_true']
    refine List.any_eq_false.2 fun a ha => ?_
    rw [decide_eq_true_eq]
    intro hw
    rw [spF, fst2, unb_ok (by decide), unb_ok (by decide)] at h2
    have hned : nedB s t n = false := by simpa using h2.2
    have had : a ∈ t.d := by
      have := List.any_eq_false.1 hned a ha
      simpa using this
    have hal : a ∈ n :: l := List.mem_cons_of_mem _ (hp2.mem_iff.1 hw)
    obtain ⟨j, hj, ej⟩ := List.getElem_of_mem hal
    have := (acc_not hO h j hj).2
    rw [List.getD_eq_getElem?_getD, List.getElem?_eq_getElem hj] at this
    have this : (n :: l)[j] ∉ t.d := this
    rw [ej] at this
    exact this had
theorem goE_0 {s : Si} {t : St8} {l : List Int} (h0 : onE s t = 0) (h : nuE s l = 0) (h1 : dnB t l = false) : goE s t l = 0 := by
  rw [goE, if_pos h0, h, h1]; rfl
theorem perm_ok {s : Si} {t : St8} {l m : List Int} (hO : OnOk s t) (h : (prE s t l).2 = 0) (hp : m.Perm l) : nuE s m = 0 ∧ dnB t m = false := by
  have h1 := nuE_ok.1 (prE_nu hO h)
  refine ⟨nuE_ok.2 ⟨fun k hk => ?_, hp.nodup_iff.2 h1.2⟩, ?_⟩
  · have hm := hp.mem_iff.1 (getD_mem 0 hk)
    obtain ⟨j, hj, e⟩ := List.getElem_of_mem hm
    have := h1.1 j hj
    rw [List.getD_eq_getElem?_getD, List.getElem?_eq_getElem hj] at this
    have this : 0 ≤ l[j] ∧ l[j] < s.tk.length := this
    rw [e] at this; exact this
  · refine List.any_eq_false.2 fun x hx => ?_
    obtain ⟨j, hj, e⟩ := List.getElem_of_mem (hp.mem_iff.1 hx)
    have := (acc_not hO (eachN_ok.1 h) j hj).2
    rw [List.getD_eq_getElem?_getD, List.getElem?_eq_getElem hj] at this
    have this : l[j] ∉ t.d := this
    rw [e] at this
    simpa using this
end Go.Pw
set_option linter.unusedSimpArgs false
set_option linter.unusedVariables false
set_option maxHeartbeats 4000000
namespace Go.Pw
set_option maxRecDepth 2000
open Go Go.Proofs A1 A2 A3 A4
end Go.Pw

set_option linter.unusedSimpArgs false
set_option linter.unusedVariables false
set_option maxHeartbeats 4000000
namespace Go.Pw
set_option maxRecDepth 2000
open Go Go.Proofs A1 A2 A3 A4
end Go.Pw

set_option linter.unusedVariables false
set_option maxHeartbeats 2000000
set_option maxRecDepth 100000
namespace Go.Pw
open Go Go.Proofs
end Go.Pw

set_option linter.unusedSimpArgs false
set_option linter.unusedVariables false
set_option maxHeartbeats 8000000
namespace Go.Pw
set_option maxRecDepth 2000
open Go Go.Proofs A1 A2 A3 A4
theorem CallD.frz {P : Program} {f : FuncId} {args args' : List V} {v : V} {id nx : Nat} {e : TypeId} {s m n : Nat} {g : Nat → List D} (h : PFD P f args' v) (hn : n ≤ m) (hlen : args.length = args'.length)
    (ha : ∀ (i : Nat) a a', args[i]? = some a → args'[i]? = some a' → (a = .c (.ms id n) ∧ a' = .c (.d (.sl s n g))) ∨ RI a a') : CallD P f args [(id, .row e s m g false)] nx v [] nx := by
  refine ⟨h.h.1, Nat.le_refl _, fun Γ w us hst _ hr => ?_⟩
  have hg : get [(id, Ent.row e s m g false)] id = some (.row e s m g false) := get_cons_same
  obtain ⟨b, hb, hok⟩ := hst.ok id _ hg
  have h1 := hst.freeze hg hb
  have hle : CxLe Γ (Γ.also fun k => k = b ∧ ∃ c, Γ.κ id = some c) := CxLe.also _ _
  have h2 : StoreOk (Γ.also fun k => k = b ∧ ∃ c, Γ.κ id = some c) w [] := storeOk_nil h1.im h1.lay
  have hr' : RepL (Γ.also fun k => k = b ∧ ∃ c, Γ.κ id = some c) w args' us := by
    refine ⟨by rw [hr.1, hlen], fun i a' u ha' hu => ?_⟩
    have hi : i < args.length := by rw [hlen]; exact (List.getElem?_eq_some_iff.1 ha').1
    have hx := hr.2 i args[i] u (List.getElem?_eq_getElem hi) hu
    rcases ha i _ a' (List.getElem?_eq_getElem hi) ha' with ⟨e1, e2⟩ | hri
    · rw [e1] at hx
      subst e2
      cases hx with
      | c _ _ hx =>
        obtain ⟨b', hb', hd⟩ := ms_data hst hg hn hx
        rw [hb] at hb'; cases hb'
        exact .c _ _ (hd _ (fun k hk => .inl hk) (fun hc => .inr ⟨rfl, hc⟩))
    · exact hri _ _ _ (hx.mono hle (fun _ _ => rfl))
  refine (h.h.2.2 _ w us h2 (fun id _ h => absurd h (Nat.not_lt_zero _)) hr').mono fun e' w' ⟨u, Γ', q1, q2, q3, q4, q5, q6⟩ => ⟨u, Γ', q1, q2, q3, hle.trans q4, fun j _ => q5 j (by omega), ?_⟩
  refine Ext.trans (Γ' := Γ.also fun k => k = b ∧ ∃ c, Γ.κ id = some c) (w' := w) (σ' := []) ⟨rfl, rfl, rfl, Nat.le_refl _, fun k hk => .inl hk, fun k hk => ?_, fun _ _ => rfl, fun _ _ => rfl, fun _ _ _ => rfl, fun k hk => absurd hk not_live_nil⟩ q6
  rcases hk with hk | ⟨rfl, hcc⟩
  · exact .inl hk
  · rcases hst.or_live hg hb hcc with h3 | h3
    · exact .inl h3
    · exact .inr (.inr ⟨id, h3, hb⟩)
theorem DI.e {s s' : Nat} {f g : Nat → List D} : DI (.sl s 0 f) (.sl s' 0 g) := fun I w u h => by
  cases h with
  | slE => exact .slE _ _ _ _
  | sl _ _ _ ad c U hn hI hs hc hr => exact .slE _ _ _ _
def Gv (s : Si) (t : St8) (l g : List Int) : Prop := ∀ m : Int, 0 ≤ m → m < s.tk.length → ((m ∈ t.d ∨ m ∈ g) ↔ m ∉ l)
theorem Gv.wo {s : Si} {t : St8} {l g : List Int} {k : Nat} (h : Gv s t l g) (hu : l.Nodup) (hk : k < l.length) (hd : ∀ m, m ∈ (nxS s t (l.getD k 0)).d ↔ m = l.getD k 0 ∨ m ∈ t.d) : Gv s (nxS s t (l.getD k 0)) (wo l k) g := fun m h0 h1 => by
  rw [hd, or_assoc, h m h0 h1, wo_filter hu hk, List.mem_filter]
  constructor
  · rintro (e | h2) ⟨h3, h4⟩
    · exact of_decide_eq_true h4 e
    · exact h2 h3
  · intro hm
    by_cases e : m = l.getD k 0
    · exact .inl e
    · exact .inr fun h2 => hm ⟨h2, decide_eq_true e⟩
theorem anyN_ext {f g : Nat → Bool} : ∀ {n : Nat}, (∀ i, i < n → f i = g i) → anyN f n = anyN g n
  | 0, _ => rfl
  | n + 1, h => by rw [anyN, anyN, anyN_ext fun i hi => h i (by omega), h n (by omega)]
end Go.Pw
set_option linter.unusedSimpArgs false
set_option linter.unusedVariables false
set_option maxHeartbeats 8000000
namespace Go.Pw
set_option maxRecDepth 2000
open Go Go.Proofs A1 A2 A3 A4
end Go.Pw

set_option linter.unusedSimpArgs false
set_option linter.unusedVariables false
set_option maxHeartbeats 8000000
namespace Go.Pw
set_option maxRecDepth 2000
open Go Go.Proofs A1 A2 A3 A4
end Go.Pw

set_option linter.unusedSimpArgs false
set_option linter.unusedVariables false
set_option maxHeartbeats 8000000
namespace Go.Pw
set_option maxRecDepth 2000
open Go Go.Proofs A1 A2 A3 A4
mutual
/-- The best plan of those that begin with a plan, of the permitted tasks. -/
def gpF (pm : Nat → Bool) (s : Si) : Nat → St8 → List Int → List Int × Int → List Int × Int
  | 0, _, p, b => updP s p b
  | f + 1, t, p, b => gpK pm s f t p (updP s p b) s.tk.length
def gpK (pm : Nat → Bool) (s : Si) (f : Nat) (t : St8) (p : List Int) (b : List Int × Int) : Nat → List Int × Int
  | 0 => b
  | k + 1 => if pm k = true ∧ spE s t k = 0 then gpF pm s f (spS s t k) (p ++ [(k : Int)]) (gpK pm s f t p b k) else gpK pm s f t p b k
end
abbrev bestPp (pm : Nat → Bool) (s : Si) (t : St8) : List Int × Int := gpF pm s (s.tk.length + 1) t [] ([], 0)
abbrev pmL (g : List Int) (k : Nat) : Bool := !decide ((k : Int) ∈ g)
theorem gpF_ext {pm pm' : Nat → Bool} {s : Si} (h : ∀ k, k < s.tk.length → pm k = pm' k) : ∀ (f : Nat) (t : St8) (p : List Int) (b : List Int × Int), gpF pm s f t p b = gpF pm' s f t p b
  | 0, t, p, b => by rw [gpF, gpF]
  | f + 1, t, p, b => by
    have key : ∀ k, k ≤ s.tk.length → gpK pm s f t p (updP s p b) k = gpK pm' s f t p (updP s p b) k := fun k => by
      induction k with
      | zero => intro _; rw [gpK, gpK]
      | succ k ih => intro hk; rw [gpK, gpK, ih (by omega), gpF_ext h f, h k (by omega)]
    rw [gpF, gpF, key _ (Nat.le_refl _)]
theorem gpF_all {s : Si} : ∀ (f : Nat) (t : St8) (p : List Int) (b : List Int × Int), gpF (fun _ => true) s f t p b = grwF s f t p b
  | 0, t, p, b => by rw [gpF, grwF]
  | f + 1, t, p, b => by
    have key : ∀ k, gpK (fun _ => true) s f t p (updP s p b) k = grwK s f t p (updP s p b) k := fun k => by
      induction k with
      | zero => rw [gpK, grwK]
      | succ k ih => rw [gpK, grwK, ih, gpF_all f]; simp only [true_and]
    rw [gpF, grwF, key]
theorem bestPp_nil {s : Si} {t : St8} : bestPp (pmL []) s t = bestP s t := by
  rw [bestPp, gpF_ext (pm' := fun _ => true) (fun k _ => by simp [pmL]), gpF_all]
def dpL (s : Si) (n : Int) : Nat → List Bool
  | 0 => []
  | k + 1 => dpL s n k ++ [(s.tk.getD k tk0).a.any fun x => decide (x = n) || (dpL s n k).getD x.toNat false]
theorem dpL_len {s : Si} {n : Int} : ∀ k, (dpL s n k).length = k
  | 0 => rfl
  | k + 1 => by rw [dpL, List.length_append, dpL_len k]; rfl
theorem dpL_get {s : Si} {n : Int} {i : Nat} : ∀ {k m : Nat}, i < k → k ≤ m → (dpL s n m).getD i false = (dpL s n k).getD i false
  | k, 0, h, h1 => by omega
  | k, m + 1, h, h1 => by
    by_cases e : k = m + 1
    · subst e; rfl
    · have hl := dpL_len (s := s) (n := n) m
      rw [dpL, List.getD_eq_getElem?_getD, List.getElem?_append_left (by omega), ← List.getD_eq_getElem?_getD, dpL_get h (by omega)]
abbrev dpB (s : Si) (n : Int) (i : Nat) : Bool := (dpL s n s.tk.length).getD i false
theorem dpL_at {s : Si} {n : Int} {i m : Nat} (hm : i < m) (h : m ≤ s.tk.length) : (dpL s n m).getD i false = dpB s n i := (dpL_get hm h).symm
theorem dpB_eq {s : Si} {n : Int} {i : Nat} (hO : SiOk s) (hi : i < s.tk.length) : dpB s n i = (s.tk.getD i tk0).a.any fun x => decide (x = n) || dpB s n x.toNat := by
  have hl := dpL_len (s := s) (n := n) i
  rw [dpB, dpL_get (k := i + 1) (by omega) (by omega), dpL, List.getD_eq_getElem?_getD, List.getElem?_append_right (by omega), hl, Nat.sub_self]
  show (List.any _ _) = _
  obtain ⟨s1, s2⟩ := Srt.of (hO.t i hi).a
  rw [← anyN_mem, ← anyN_mem]
  refine anyN_ext fun j hj => ?_
  have := s2 j hj
  rw [dpL_at (m := i) (by omega) (by omega)]
theorem dpB_lo {s : Si} {n : Int} (hO : SiOk s) : ∀ (i : Nat), i < s.tk.length → (i : Int) ≤ n → dpB s n i = false := fun i => by
  induction i using Nat.strongRecOn with
  | ind i ih =>
    intro hi hn
    rw [dpB_eq hO hi]
    obtain ⟨s1, s2⟩ := Srt.of (hO.t i hi).a
    refine List.any_eq_false.2 fun x hx => ?_
    obtain ⟨j, hj, e⟩ := List.getElem_of_mem hx
    have h2 := s2 j hj
    rw [List.getD_eq_getElem?_getD, List.getElem?_eq_getElem hj] at h2
    have h2 : 0 ≤ (s.tk.getD i tk0).a[j] ∧ (s.tk.getD i tk0).a[j] ≤ (i : Int) - 1 := h2
    rw [e] at h2
    rw [decide_eq_false (by omega), ih x.toNat (by omega) (by omega) (by omega)]
    decide
abbrev depL (s : Si) (n : Int) (k : Nat) : List Int := fltL (dpB s n) k
end Go.Pw
set_option linter.unusedSimpArgs false
set_option linter.unusedVariables false
set_option maxHeartbeats 8000000
namespace Go.Pw
set_option maxRecDepth 2000
open Go Go.Proofs A1 A2 A3 A4
end Go.Pw

set_option linter.unusedSimpArgs false
set_option linter.unusedVariables false
set_option maxHeartbeats 8000000
namespace Go.Pw
set_option maxRecDepth 2000
open Go Go.Proofs A1 A2 A3 A4
section
variable {P : Program} {N base : Nat}
end
theorem RetQ.wk {nx nx1 nx' : Nat} {rl : List RL} {vs vs0 : List V} {σ' : Store} {e : Exit} {env : List (Nat × V)} {σ : Store} (hres : resAll env σ rl = some vs0) (hl : Nat.beq vs0.length vs.length = true) (h : Is nx ⟨argEnv 0 vs0, σ, nx1⟩ ⟨argEnv 0 vs, σ', nx'⟩ []) (he : e = .normal ∨ e = .ret := by first | exact .inr rfl | exact .inl rfl) : RetQ nx rl vs σ' nx' e ⟨env, σ, nx1⟩ := by
  have := h.wk
  rw [nmAt_nil] at this
  exact RetQ.of he hres hl (Mv.weaken this)
end Go.Pw
set_option linter.unusedVariables false
set_option maxHeartbeats 2000000
set_option maxRecDepth 100000
namespace Go.Pw
open Go Go.Proofs
end Go.Pw

set_option linter.unusedSimpArgs false
set_option linter.unusedVariables false
set_option maxHeartbeats 8000000
namespace Go.Pw
set_option maxRecDepth 2000
open Go Go.Proofs A1 A2 A3 A4
abbrev isTk (s : Si) (n : Int) : Bool := wi n 0 ((s.tk.length : Int) - 1)
def deE (s : Si) (n : Int) : Int := fstE [(siE s).2, unb (isTk s n) 6]
theorem deE.ok {s : Si} {n : Int} (h : deE s n = 0) : SiOk s ∧ 0 ≤ n ∧ n < s.tk.length := by
  rw [deE, fst2, unb_ok (by decide)] at h
  have := of_decide_eq_true h.2
  exact ⟨SiOk.of h.1, by omega, by omega⟩
abbrev pmD (s : Si) (n : Int) (k : Nat) : Bool := !decide ((k : Int) = n) && !(dpB s n k)
end Go.Pw
set_option linter.unusedSimpArgs false
set_option linter.unusedVariables false
set_option maxHeartbeats 8000000
namespace Go.Pw
set_option maxRecDepth 2000
open Go Go.Proofs A1 A2 A3 A4
end Go.Pw

set_option linter.unusedSimpArgs false
set_option linter.unusedVariables false
set_option maxHeartbeats 8000000
namespace Go.Pw
set_option maxRecDepth 2000
open Go Go.Proofs A1 A2 A3 A4
end Go.Pw

set_option linter.unusedSimpArgs false
set_option linter.unusedVariables false
set_option maxHeartbeats 4000000
namespace Go.Pw
set_option maxRecDepth 2000
open Go Go.Proofs A1 A2 A3 A4
theorem C58 : PFD Tryz.prog 58 [] (vbl true) := by
  have c2 := C76 (s := exSi) (t := exSt1) ⟨exSm, by decide⟩
  rw [ex3] at c2
  have c3 := C64 (s := exSi) (t := exSt) ⟨exSm, by decide⟩
  rw [ex4, if_pos rfl, if_pos rfl, ex5] at c3
  have c6 := C44 (l := [0, 2]) (m := [0, 2]) (by decide)
  rw [decide_eq_true rfl] at c6
  refine pi1 fn58 ?_
  (repeat' first | (refine Owe.same ?_; first | refine Owe.o ?_ | refine Owe.mk ?_ ?_) | (refine Fork.same ?_; (first | refine fkY ?_ | refine fkF ?_ | ((first | refine fkD ?_ ?_ | refine fkN ?_ ?_ | refine fkM ?_ ?_) <;> intro h))) | ((first | refine OpsL.same ?_ | refine OpsDL.same ?_); first | refine pK C107 rfl rfl ?_ | refine pK C108 rfl rfl ?_ | refine pK c2 rfl rfl ?_ | refine pK c3 rfl rfl ?_) | refine MvQ.stay ?_)
  ((first | refine OpsL.same ?_ | refine OpsDL.same ?_); first | refine pK c6 rfl rfl ?_)
  (repeat' first | (refine Owe.same ?_; first | refine Owe.o ?_ | refine Owe.mk ?_ ?_) | (refine Fork.same ?_; (first | refine fkY ?_ | refine fkF ?_ | ((first | refine fkD ?_ ?_ | refine fkN ?_ ?_ | refine fkM ?_ ?_) <;> intro h))) | ((first | refine OpsL.same ?_ | refine OpsDL.same ?_); first | refine oK C107 rfl rfl rfl ?_) | refine MvQ.stay ?_)
  (refine rqK rfl ?_; (repeat' first | exact rfl | (refine qS ?_; constructor)))
abbrev srtL (l : List Int) (k : Nat) : List Int := fltL (fun n => decide ((n : Int) ∈ l)) k
theorem C72 {l : List Int} : l.length ≤ 1000000 → PFD Tryz.prog 72 [.c (ints l)] (.c (ints (srtL l 6))) := fun hl => by
  refine pi1 fn72 ?_
  (repeat' first | (refine Owe.same ?_; first | refine Owe.o ?_ | refine Owe.mk ?_ ?_) | (refine Fork.same ?_; (first | refine fkD ?_ ?_ | refine fkN ?_ ?_ | refine fkM ?_ ?_) <;> intro h) | refine MvQ.stay ?_)
  refine Sat.nilS 3 3 1 (fun i => r1 (([] : List Int).getD i 0)) rfl ?_
  refine Sat.lp (fun k : Nat => ⟨[(0, .c (ints l)), (3, .c (.ms 0 (srtL l k).length)), (4, vi .i64 (k : Int))], [(0, rowv 3 1 r1 0 (srtL l k))], 1⟩)
    (fun k => k ≤ 6) (fun k => 6 - k) 0 [0] (Nat.zero_le _) ?_ ?_
  · (refine qis ?_ ?_ <;> (repeat' first | exact rfl | (refine qS ?_; constructor)))
  · intro k hk
    have hfl : (srtL l k).length ≤ k := fltL_len _ k
    have hfs : srtL l (k + 1) = if (fun n : Nat => decide ((n : Int) ∈ l)) k = true then srtL l k ++ [(k : Int)] else srtL l k := fltL_succ _ k
    have c80 := C80 (l := l) (n := (k : Int)) (by omega)
    refine Fork.dec (fun hlt => ?_) (fun hlt => ?_)
    · have hlt : k < 6 := by have hlt : (k : Int) < 6 := hlt; omega
      by_cases hm : (k : Int) ∈ l
      · rw [decide_eq_true hm] at c80
        rw [if_pos (decide_eq_true hm)] at hfs
        (repeat' first | (refine Owe.same ?_; first | refine Owe.o ?_ | refine Owe.mk ?_ ?_) | (refine Fork.same ?_; (first | refine fkY ?_ | refine fkF ?_ | ((first | refine fkD ?_ ?_ | refine fkN ?_ ?_ | refine fkM ?_ ?_) <;> intro h))) | ((first | refine OpsL.same ?_ | refine OpsDL.same ?_); first | refine oK c80 rfl rfl rfl ?_) | refine MvQ.stay ?_)
        refine again (k + 1) [1] hlt (by show 6 - (k + 1) < 6 - k; omega) ?_
        (refine qis ?_ ?_ <;> (repeat' first | exact rfl | (refine qS ?_; constructor)))
        · rw [hfs]; simp
        · exact hfs
      · rw [decide_eq_false hm] at c80
        rw [if_neg (by simpa using hm)] at hfs
        (repeat' first | (refine Owe.same ?_; first | refine Owe.o ?_ | refine Owe.mk ?_ ?_) | (refine Fork.same ?_; (first | refine fkY ?_ | refine fkF ?_ | ((first | refine fkD ?_ ?_ | refine fkN ?_ ?_ | refine fkM ?_ ?_) <;> intro h))) | ((first | refine OpsL.same ?_ | refine OpsDL.same ?_); first | refine oK c80 rfl rfl rfl ?_) | refine MvQ.stay ?_)
        refine again (k + 1) [0] hlt (by show 6 - (k + 1) < 6 - k; omega) ?_
        rw [hfs]
        (refine qis ?_ ?_ <;> (repeat' first | exact rfl | (refine qS ?_; constructor)))
    · have hk1 : k = 6 := by have hlt : ¬ (k : Int) < 6 := hlt; omega
      subst hk1
      (repeat' first | (refine Owe.same ?_; first | refine Owe.o ?_ | refine Owe.mk ?_ ?_) | (refine Fork.same ?_; (first | refine fkD ?_ ?_ | refine fkN ?_ ?_ | refine fkM ?_ ?_) <;> intro h) | refine MvQ.stay ?_)
      refine rqF 0 _ rfl rfl rfl ?_; (repeat' first | exact rfl | (refine qS ?_; constructor))
theorem C153 {a b : Int} : (Md a ∧ Md b) → PFD Tryz.prog 153 [vi .i64 a, vi .i64 b] (vi .i64 (gcdI a b)) := fun hab => by
  refine pi1 fn153 ?_
  (repeat' first | (refine Owe.same ?_; first | refine Owe.o ?_ | refine Owe.mk ?_ ?_) | (refine Fork.same ?_; (first | refine fkD ?_ ?_ | refine fkN ?_ ?_ | refine fkM ?_ ?_) <;> intro h) | refine MvQ.stay ?_)
  refine Sat.lp0 (fun p : Int × Int => [(0, vi .i64 p.1), (1, vi .i64 p.2)]) (fun p => (Md p.1 ∧ Md p.2) ∧ Int.gcd p.1 p.2 = Int.gcd a b) (fun p => p.2.natAbs) (a, b) ⟨hab, rfl⟩ (by ((first | refine qen ?_ | refine qvs ?_ | refine qeq ?_ | refine qst ?_ | refine qv ?_ | refine qc ?_ | refine qe ?_ | refine qcs ?_ | skip); (repeat' first | exact rfl | (refine qS ?_; constructor)))) ?_
  rintro ⟨x, y⟩ ⟨hm, hg⟩
  (repeat' first | (refine Owe.same ?_; first | refine Owe.o ?_ | refine Owe.mk ?_ ?_) | (refine Fork.same ?_; (first | refine fkD ?_ ?_ | refine fkN ?_ ?_ | refine fkM ?_ ?_) <;> intro h) | refine MvQ.stay ?_)
  · have h1 := tmod_abs (a := x) h
    refine again0 (y, x.tmod y) ⟨⟨hm.2, by have := hm.2; simp only [Md] at *; omega⟩, by rw [gcd_step]; exact hg⟩ h1 (by ((first | refine qen ?_ | refine qvs ?_ | refine qeq ?_ | refine qst ?_ | refine qv ?_ | refine qc ?_ | refine qe ?_ | refine qcs ?_ | skip); (repeat' first | exact rfl | (refine qS ?_; constructor))))
  · (refine rqK rfl ?_; (repeat' first | exact rfl | (refine qS ?_; constructor)))
    have h : y = 0 := h
    subst h
    exact (gcd_zero x).symm.trans (by simp only [gcdI]; rw [← hg])
theorem C145 {n d : Int} : (Md n ∧ Md d ∧ 0 < d) → PFD Tryz.prog 145 [vi .i64 n, vi .i64 d] (.agg [int (frac n d).1, int (frac n d).2]) := fun ⟨hn, hd, h0⟩ => by
  have h1 := gcd_pos (n := n) h0
  have h2 := tdiv_bd (b := gcdI n d) hn
  have h3 := tdiv_bd (b := gcdI n d) hd
  refine pi1 fn145 ?_
  (repeat' first | (refine Owe.same ?_; first | refine Owe.o ?_ | refine Owe.mk ?_ ?_) | (refine Fork.same ?_; (first | refine fkD ?_ ?_ | refine fkN ?_ ?_ | refine fkM ?_ ?_) <;> intro h) | ((first | refine OpsL.same ?_ | refine OpsDL.same ?_); first | refine pK C153 rfl rfl ?_) | refine MvQ.stay ?_)
  (refine rqK rfl ?_; (repeat' first | exact rfl | (refine qS ?_; constructor)))
abbrev cmpF (a b : Int × Int) : Int := cmpI (a.1 * b.2) (b.1 * a.2)
abbrev frv (p : Int × Int) : V := .agg [int p.1, int p.2]
abbrev frSm (p : Int × Int) : Prop := (-2000000000000 ≤ p.1 ∧ p.1 ≤ 2000000000000) ∧ 0 < p.2 ∧ p.2 ≤ 10000
theorem frSm_mul {a b : Int × Int} (ha : frSm a) (hb : frSm b) : -20000000000000000 ≤ a.1 * b.2 ∧ a.1 * b.2 ≤ 20000000000000000 := by
  have := mbd (a := a.1) (A := 2000000000000) (by omega) (b := b.2) (B := 10000) (by omega)
  omega
theorem C149 {a b : Int × Int} : (frSm a ∧ frSm b) → PFD Tryz.prog 149 [frv a, frv b] (vi .i64 (cmpF a b)) := fun ⟨ha, hb⟩ => by
  have h1 := frSm_mul ha hb
  have h2 := frSm_mul hb ha
  refine pi1 fn149 ?_
  (repeat' first | (refine Owe.same ?_; first | refine Owe.o ?_ | refine Owe.mk ?_ ?_) | (refine Fork.same ?_; (first | refine fkD ?_ ?_ | refine fkN ?_ ?_ | refine fkM ?_ ?_) <;> intro h) | ((first | refine OpsL.same ?_ | refine OpsDL.same ?_); first | refine pK C160 rfl rfl ?_) | refine MvQ.stay ?_)
  (refine rqK rfl ?_; (repeat' first | exact rfl | (refine qS ?_; constructor)))
theorem C69 {a b : Int × Int} : (frSm a ∧ frSm b) → PFD Tryz.prog 69 [frv a, frv b] (vi .i64 (cmpF a b)) := fun ⟨ha, hb⟩ => by
  have h1 := frSm_mul ha hb
  have h2 := frSm_mul hb ha
  obtain ⟨q, hq⟩ : ∃ q, q = cmpF a b := ⟨_, rfl⟩
  rw [← hq]
  refine pi1 fn69 ?_
  (repeat' first | (refine Owe.same ?_; first | refine Owe.o ?_ | refine Owe.mk ?_ ?_) | (refine Fork.same ?_; (first | refine fkD ?_ ?_ | refine fkN ?_ ?_ | refine fkM ?_ ?_) <;> intro h) | refine MvQ.stay ?_)
  · have : q = -1 := by rw [hq, cmpF, cmpI, if_pos h]
    subst this
    (refine rqK rfl ?_; (repeat' first | exact rfl | (refine qS ?_; constructor)))
  · rename_i h1; (refine rqK rfl ?_; (repeat' first | exact rfl | (refine qS ?_; constructor))); rw [hq, cmpF, cmpI, if_neg h1, if_pos h]
  · rename_i h1; (refine rqK rfl ?_; (repeat' first | exact rfl | (refine qS ?_; constructor))); rw [hq, cmpF, cmpI, if_neg h1, if_neg h]
abbrev prOk (p : Int × Int) : Prop := (0 ≤ p.1 ∧ p.1 ≤ 10000) ∧ 0 < p.2 ∧ p.2 ≤ 10000
def bdP (s : Si) (t : St8) (p : Int × Int) : Nat → Int
  | 0 => p.1 * (t.w - s.res)
  | k + 1 => if (k : Int) ∈ t.d then bdP s t p k else bdP s t p k + max 0 ((tkA s k).v * p.2 - p.1 * (tkA s k).w)
abbrev bdF (s : Si) (t : St8) (p : Int × Int) : Int × Int := frac (bdP s t p s.tk.length) p.2
theorem bdP_bd {s : Si} {t : St8} {p : Int × Int} (h : OnOk s t) (hp : prOk p) : ∀ k, k ≤ s.tk.length → -1100000000000 ≤ bdP s t p k ∧ bdP s t p k ≤ 1100000000000 + 200000000 * k
  | 0, _ => by
    have h2 := h.en
    have h3 := h.ok.e
    have := mbd (a := p.1) (A := 10000) (by omega) (b := t.w - s.res) (B := 100010000) (by omega)
    rw [bdP]; omega
  | k + 1, hk => by
    have ih := bdP_bd h hp k (by omega)
    have ht := h.ok.t k (by omega)
    have hv := ht.v
    have hw := ht.w
    have e : tkA s (k : Int) = s.tk.getD k tk0 := by simp only [tkA, Int.toNat_natCast]
    have h1 := mbd (a := (tkA s (k : Int)).v) (A := 10000) (by rw [e]; omega) (b := p.2) (B := 10000) (by omega)
    have h2 := mbd (a := p.1) (A := 10000) (by omega) (b := (tkA s (k : Int)).w) (B := 10000) (by rw [e]; omega)
    rw [bdP]
    split <;> omega
theorem C150 {s : Si} {t : St8} {p : Int × Int} : (OnOk s t ∧ prOk p) → PFD Tryz.prog 150 [div s t, frv p] (frv (bdF s t p)) := fun ⟨h, hp⟩ => by
  have n6 := h.ok.n
  have ld := h.dl
  have h2 := h.en
  have h3 := h.ok.e
  have b0 := mbd (a := p.1) (A := 10000) (by omega) (b := t.w - s.res) (B := 100010000) (by omega)
  have c1 := fun n => C144 (s := s) (t := t) (n := n) (by omega)
  obtain ⟨q, hq⟩ : ∃ q, q = bdF s t p := ⟨_, rfl⟩
  rw [← hq]
  refine pi1 fn150 ?_
  (repeat' first | (refine Owe.same ?_; first | refine Owe.o ?_ | refine Owe.mk ?_ ?_) | (refine Fork.same ?_; (first | refine fkD ?_ ?_ | refine fkN ?_ ?_ | refine fkM ?_ ?_) <;> intro h) | refine MvQ.stay ?_)
  refine Sat.lp (fun k : Nat => ⟨[(22, vi .i64 k), (21, vi .i64 s.tk.length), (20, .c (tks s.tk)), (5, vi .i64 (bdP s t p k)), (2, .c (.rp (diD s t))), (3, .c (.rp [dI p.1, dI p.2])), (4, .c (.bp 0 0))], [(0, .box [int 0, int 0])], 1⟩) (fun k => k ≤ s.tk.length) (fun k => s.tk.length - k) 0 [0] (Nat.zero_le _) (by (refine qis ?_ ?_ <;> (repeat' first | exact rfl | (refine qS ?_; constructor)))) ?_
  intro k hk
  have hb := bdP_bd h hp k hk
  refine Fork.dec (fun hlt => ?_) (fun hlt => ?_)
  · have hlt : k < s.tk.length := by omega
    have ht := h.ok.t k hlt
    have hv := ht.v
    have hw := ht.w
    have b1 := mbd (a := (s.tk.getD k tk0).v) (A := 10000) (by omega) (b := p.2) (B := 10000) (by omega)
    have b2 := mbd (a := (s.tk.getD k tk0).w) (A := 10000) (by omega) (b := p.1) (B := 10000) (by omega)
    have c2 := c1 (k : Int)
    by_cases hm : (k : Int) ∈ t.d
    · have e : bdP s t p (k + 1) = bdP s t p k := by rw [bdP, if_pos hm]
      rw [decide_eq_true hm] at c2
      (repeat' first | (refine Owe.same ?_; first | refine Owe.o ?_ | refine Owe.mk ?_ ?_) | (refine Fork.same ?_; (first | refine fkY ?_ | refine fkF ?_ | ((first | refine fkD ?_ ?_ | refine fkN ?_ ?_ | refine fkM ?_ ?_) <;> intro h))) | ((first | refine OpsL.same ?_ | refine OpsDL.same ?_); first | refine oK c2 rfl rfl rfl ?_) | refine MvQ.stay ?_)
      refine again (k + 1) [0] hlt (by omega) ?_
      rw [e]
      (refine qis ?_ ?_ <;> (repeat' first | exact rfl | (refine qS ?_; constructor)))
    · have e : bdP s t p (k + 1) = bdP s t p k + max 0 ((s.tk.getD k tk0).v * p.2 - (s.tk.getD k tk0).w * p.1) := by
        rw [bdP, if_neg hm, Int.mul_comm p.1]; simp only [tkA, Int.toNat_natCast]
      rw [decide_eq_false hm] at c2
      (repeat' first | (refine Owe.same ?_; first | refine Owe.o ?_ | refine Owe.mk ?_ ?_) | (refine Fork.same ?_; (first | refine fkY ?_ | refine fkF ?_ | ((first | refine fkD ?_ ?_ | refine fkN ?_ ?_ | refine fkM ?_ ?_) <;> intro h))) | ((first | refine OpsL.same ?_ | refine OpsDL.same ?_); first | refine oK c2 rfl rfl rfl ?_) | refine MvQ.stay ?_)
      refine again (k + 1) [0] hlt (by omega) ?_
      rw [e]
      (refine qis ?_ ?_ <;> (repeat' first | exact rfl | (refine qS ?_; constructor)))
  · obtain rfl : k = s.tk.length := by omega
    have c3 := C145 (n := bdP s t p s.tk.length) (d := p.2) ⟨by simp only [Md]; omega, by simp only [Md]; omega, by omega⟩
    change PFD Tryz.prog 145 _ (frv (bdF s t p)) at c3
    rw [← hq] at c3
    (repeat' first | (refine Owe.same ?_; first | refine Owe.o ?_ | refine Owe.mk ?_ ?_) | (refine Fork.same ?_; (first | refine fkY ?_ | refine fkF ?_ | ((first | refine fkD ?_ ?_ | refine fkN ?_ ?_ | refine fkM ?_ ?_) <;> intro h))) | ((first | refine OpsL.same ?_ | refine OpsDL.same ?_); first | refine oK c3 rfl rfl rfl ?_) | refine MvQ.stay ?_)
    (refine rqK rfl ?_; (repeat' first | exact rfl | (refine qS ?_; constructor)))
theorem tdiv_nn2 {a b M : Int} (h : 0 ≤ a ∧ a ≤ M) (hb : 0 < b) : 0 ≤ a.tdiv b ∧ a.tdiv b ≤ M := by
  have h1 := tdiv_bd (b := b) (a := a) (M := M) (by omega)
  refine ⟨Int.tdiv_nonneg h.1 (by omega), h1.2⟩
theorem frac_den {n d M : Int} (hd : 0 < d ∧ d ≤ M) : 0 < (frac n d).2 ∧ (frac n d).2 ≤ M := by
  have hg := gcd_pos (n := n) hd.1
  have h1 : 0 < d.tdiv (gcdI n d) := by
    rw [Int.tdiv_eq_ediv_of_nonneg (by omega)]
    exact Int.ediv_pos_of_pos_of_dvd hd.1 (by omega) (Int.gcd_dvd_right ..)
  exact ⟨h1, (tdiv_nn2 (b := gcdI n d) (a := d) (M := M) (by omega) (by omega)).2⟩
theorem bdF_sm {s : Si} {t : St8} {p : Int × Int} (h : OnOk s t) (hp : prOk p) : frSm (bdF s t p) := by
  have n6 := h.ok.n
  have hb := bdP_bd h hp s.tk.length (Nat.le_refl _)
  exact ⟨tdiv_bd (M := 2000000000000) (by omega), frac_den hp.2⟩
theorem prOk.sm {p : Int × Int} (h : prOk p) : frSm p := ⟨by omega, h.2⟩
theorem prOk.frac {n d : Int} (hn : isN n) (hd : isN d ∧ d ≠ 0) : prOk (frac n d) := by
  have hg := gcd_pos (n := n) (d := d) (by omega)
  exact ⟨tdiv_nn2 (by omega) hg, frac_den (M := 10000) (by omega)⟩
abbrev lsI (s : Si) (t : St8) (a b : Int × Int) : Int := fstE [cmpF (bdF s t a) (bdF s t b), cmpF a b]
abbrev lsB (s : Si) (t : St8) (a b : Int × Int) : Bool := decide (lsI s t a b < 0)
theorem C147 {s : Si} {t : St8} {a b : Int × Int} : (OnOk s t ∧ prOk a ∧ prOk b) → PFD Tryz.prog 147 [frv a, frv b, .c (.rp (diD s t))] (vi .i64 (lsI s t a b)) := fun ⟨h, ha, hb⟩ => by
  have c1 := C150 (s := s) (t := t) (p := a) ⟨h, ha⟩
  have c2 := C150 (s := s) (t := t) (p := b) ⟨h, hb⟩
  have c3 := C149 (a := bdF s t a) (b := bdF s t b) ⟨bdF_sm h ha, bdF_sm h hb⟩
  have c4 := C149 (a := a) (b := b) ⟨ha.sm, hb.sm⟩
  obtain ⟨q, hq⟩ : ∃ q, q = lsI s t a b := ⟨_, rfl⟩
  rw [← hq]
  rw [lsI] at hq
  generalize bdF s t a = A at *
  generalize bdF s t b = B at *
  generalize cmpF A B = x at *
  generalize cmpF a b = y at *
  refine pi1 fn147 ?_
  (repeat' first | (refine Owe.same ?_; first | refine Owe.o ?_ | refine Owe.mk ?_ ?_) | (refine Fork.same ?_; (first | refine fkY ?_ | refine fkF ?_ | ((first | refine fkD ?_ ?_ | refine fkN ?_ ?_ | refine fkM ?_ ?_) <;> intro h))) | ((first | refine OpsL.same ?_ | refine OpsDL.same ?_); first | refine oK c1 rfl rfl rfl ?_ | refine oK c2 rfl rfl rfl ?_ | refine oK c3 rfl rfl rfl ?_ | refine oK c4 rfl rfl rfl ?_) | refine MvQ.stay ?_)
  (repeat' first | (refine Owe.same ?_; first | refine Owe.o ?_ | refine Owe.mk ?_ ?_) | (refine Fork.same ?_; (first | refine fkD ?_ ?_ | refine fkN ?_ ?_ | refine fkM ?_ ?_) <;> intro h) | ((first | refine OpsL.same ?_ | refine OpsDL.same ?_); first | refine pK C148 rfl rfl ?_) | refine MvQ.stay ?_)
  subst hq
  (refine rqK rfl ?_; (repeat' first | exact rfl | (refine qS ?_; constructor)))
def minS (lt : Int × Int → Int × Int → Bool) : List (Int × Int) → Int × Int
  | [] => (0, 0)
  | x :: l => l.foldl (fun m y => if lt y m = true then y else m) x
theorem minS_app {lt : Int × Int → Int × Int → Bool} {l : List (Int × Int)} {y : Int × Int} (h : l ≠ []) : minS lt (l ++ [y]) = if lt y (minS lt l) = true then y else minS lt l := by
  cases l with
  | nil => exact absurd rfl h
  | cons x l => simp only [minS, List.cons_append, List.foldl_append, List.foldl_cons, List.foldl_nil]; rfl
theorem minS_take {lt : Int × Int → Int × Int → Bool} {l : List (Int × Int)} {k : Nat} (h : 0 < k) (hk : k < l.length) : minS lt (l.take (k + 1)) = if lt (l.getD k (0, 0)) (minS lt (l.take k)) = true then l.getD k (0, 0) else minS lt (l.take k) := by
  have e : l.take (k + 1) = l.take k ++ [l.getD k (0, 0)] := by
    rw [List.getD_eq_getElem?_getD, List.getElem?_eq_getElem hk]; exact (List.take_append_getElem hk).symm
  rw [e, minS_app (by intro h0; have := congrArg List.length h0; rw [List.length_take] at this; simp only [List.length_nil] at this; omega)]
theorem C146 {g : FuncId} {rows : List (List D)} {l : List (Int × Int)} {ok : Int × Int → Prop} {lt : Int × Int → Int × Int → Int} (hl : 0 < l.length ∧ l.length ≤ 1000000) (hok : ∀ i, i < l.length → ok (l.getD i (0, 0)))
    (hg : ∀ a b, ok a → ok b → PFD Tryz.prog g (frv a :: frv b :: rows.map fun r => .c (.rp r)) (vi .i64 (lt a b))) : PFD Tryz.prog 146 [.c (prs l), .c (.fnR g rows)] (frv (minS (fun a b => decide (lt a b < 0)) l)) := by
  obtain ⟨q, hq⟩ : ∃ q, q = minS (fun a b => decide (lt a b < 0)) l := ⟨_, rfl⟩
  rw [← hq]
  have e0 : minS (fun a b => decide (lt a b < 0)) (l.take (0 + 1)) = l.getD 0 (0, 0) := by
    cases l with
    | nil => exact absurd hl.1 (by decide)
    | cons x l => rfl
  refine pi1 fn146 ?_
  (repeat' first | (refine Owe.same ?_; first | refine Owe.o ?_ | refine Owe.mk ?_ ?_) | (refine Fork.same ?_; (first | refine fkD ?_ ?_ | refine fkN ?_ ?_ | refine fkM ?_ ?_) <;> intro h) | refine MvQ.stay ?_)
  · exfalso; omega
  refine Sat.lp (fun ((k, m) : Nat × (Int × Int)) => ⟨[(6, vi .i64 ((k : Int) + 1)), (0, .c (prs l)), (1, .c (.fnR g rows)), (4, .c (.bp 0 0)), (5, .c (.bp 1 0))], [(1, .box [int m.1, int m.2]), (0, .box [int 0, int 0])], 2⟩) (fun ((k, m) : Nat × (Int × Int)) => k + 1 ≤ l.length ∧ ok m ∧ m = minS (fun a b => decide (lt a b < 0)) (l.take (k + 1))) (fun ((k, m) : Nat × (Int × Int)) => l.length - k) (0, l.getD 0 (0, 0)) [0, 1] ⟨by omega, hok 0 hl.1, e0.symm⟩ (by (refine qis ?_ ?_ <;> (repeat' first | exact rfl | (refine qS ?_; constructor)))) ?_
  rintro ⟨k, m⟩ ⟨hk, hm, hM⟩
  refine Fork.dec (fun hlt => ?_) (fun hlt => ?_)
  · have hlt : k + 1 < l.length := by omega
    have c1 := hg (l.getD (k + 1) (0, 0)) m (hok _ hlt) hm
    have hs := minS_take (lt := fun a b => decide (lt a b < 0)) (l := l) (k := k + 1) (by omega) hlt
    rw [← hM] at hs
    have ho := hok _ hlt
    have e : ((k : Int) + 1).toNat = k + 1 := by omega
    rw [← e] at c1
    (repeat' first | (refine Owe.same ?_; first | refine Owe.o ?_ | refine Owe.mk ?_ ?_) | (refine Fork.same ?_; (first | refine fkD ?_ ?_ | refine fkN ?_ ?_ | refine fkM ?_ ?_) <;> intro h) | ((first | refine OpsL.same ?_ | refine OpsDL.same ?_); first | refine pR c1 rfl rfl ?_) | refine MvQ.stay ?_)
    · rw [e] at h
      rw [if_pos (decide_eq_true h)] at hs
      refine again (k + 1, l.getD (k + 1) (0, 0)) [0, 1] ⟨by omega, ho, hs.symm⟩ (show l.length - (k + 1) < l.length - k by omega) ?_
      rw [← e]
      (refine qis ?_ ?_ <;> (repeat' first | exact rfl | (refine qS ?_; constructor)))
    · rw [e] at h
      rw [if_neg (by simpa using h)] at hs
      exact again (k + 1, m) [0, 1] ⟨by omega, hm, hs.symm⟩ (show l.length - (k + 1) < l.length - k by omega) (by (refine qis ?_ ?_ <;> (repeat' first | exact rfl | (refine qS ?_; constructor))))
  · have : k + 1 = l.length := by omega
    rw [this, List.take_length, ← hq] at hM
    subst hM
    (repeat' first | (refine Owe.same ?_; first | refine Owe.o ?_ | refine Owe.mk ?_ ?_) | (refine Fork.same ?_; (first | refine fkD ?_ ?_ | refine fkN ?_ ?_ | refine fkM ?_ ?_) <;> intro h) | refine MvQ.stay ?_)
    (refine rqK rfl ?_; (repeat' first | exact rfl | (refine qS ?_; constructor)))
end Go.Pw
set_option linter.unusedVariables false
set_option maxHeartbeats 2000000
set_option maxRecDepth 100000
namespace Go.Pw
open Go Go.Proofs
def lc66u : LCode :=
 (zQ [zI 2 (.boxS (zR 0)), zI 3 (.boxS (zR 1)), zI 4 (.alloc [(.int .i64 0), (.int .i64 0)]), zI 5 (.alloc [(.int .i64 0), (.int .i64 0)]), zI 6 (.mv (zK 0))] (zQ [zI 14 (.load true 8 (zR 2)), zI 15 (.load true 5 (zR 3)),
 zI 16 (zC 141 [(zR 14), (zR 15)]), zM 13 16, zI 17 (.ext (zR 13) 0), zI 18 (.ext (zR 13) 1), zI 7 (.alloc [(.slice none 0 0), (.slice none 0 0), (.slice none 0 0), (.slice none 0 0), (.int .i64 0), (.int .i64 0), (.int
 .i64 0), (.int .i64 0), (.int .i64 0), (.int .i64 0), (.int .i64 0), (.int .i64 0), (.slice none 0 0)]), zN (.store 13 (zR 7) (zR 17)), zM 8 18] (.seq (zQ [zM 19 8, zI 20 (.bin .neq (zR 19) (zK 0))] (.cond (zR 20) (zQ
 [zI 21 (.build [(.int .i64 0), (.int .i64 0)] []), zI 22 (.build [(.int .i64 0), (.int .i64 0)] []), zM 23 8, zN (.store 2 (zR 4) (zR 21)), zN (.store 2 (zR 5) (zR 22)), zM 6 23] .ret) .skip)) (zQ [zI 24 (.build [(.int
 .i64 0), (.int .i64 0)] [(1, 1, (zK 1))]), zI 25 (.lit true 104 2 [(zR 24)]), zM 9 25] (.seq (zQ [zI 26 (.fld 0 (zR 7)), zI 27 (.fld 0 (zR 26)), zL 28 27, zI 29 (.len (zR 28)), zI 30 (.mv (zK 0))] (.block 0 (.loop (zQ
 [zI 31 (.bin .lss (zR 30) (zR 29))] (.seq (.cond (zR 31) .skip (.exit 0)) (.seq (.block 1 (zQ [zM 32 30, zI 33 (.idx 9 (zR 28) (zR 30)), zI 34 (.load true 9 (zR 33)), ⟨some 11, .alloc [(.string ⟨#[]⟩), (.int .i64 0),
 (.int .i64 0), (.int .i64 0), (.int .i64 0), (.int .i64 0), (.int .i64 0), (.int .i64 0), (.slice none 0 0)], none⟩, zM 10 32, zN (.store 9 (zR 11) (zR 34))] (zQ [zI 35 (.load true 13 (zR 7)), zM 36 10, zI 37 (zC 144
 [(zR 35), (zR 36)]), zI 38 (.un .not (zR 37)), zM 39 38, zT 40 39 (.fld 3 (zR 11)), zT 41 39 (.load false 1 (zR 40)), zT 42 39 (.bin .gtr (zR 41) (zK 0)), zI 43 (.pick (zR 39) (zR 42) (zB false))] (.cond (zR 43) (.region
 [zM 44 9, zI 45 (.fld 5 (zR 11)), zL 46 45, zI 47 (.fld 3 (zR 11)), zL 48 47, zI 49 (zC 145 [(zR 46), (zR 48)]), zI 50 (.lit false 104 2 [(zR 49)]), zI 51 (.append true 104 2 16 (zR 44) (zR 50)), zM 9 51]) .skip))))
 (.region [zI 52 (.bin .add (zR 30) (zK 1)), zM 30 52]))))))) (.seq (.stop (.region [zM 53 9, zI 54 (.mkfn 147 [(zR 7)]), zI 55 (zC 146 [(zR 53), (zR 54)]), zI 12 (.alloc [(.int .i64 0), (.int .i64 0)]), zN (.store 2 (zR
 12) (zR 55))])) (.seq (.regionD [zI 56 (.load true 2 (zR 12)), zI 57 (.load true 13 (zR 7)), zI 58 (.load true 2 (zR 12)), zI 59 (zC 150 [(zR 57), (zR 58)]), zN (.store 2 (zR 4) (zR 56)), zN (.store 2 (zR 5) (zR 59)), zI
 6 (.mv (zK 0))] [0, 0, 0, 6, 15, 31, 63] [0, 1, 2, 3, 4, 5, 6]) .ret)))))))
theorem low66u : lowF Tryz.prog [2, 3, 25, 51] Tryz.f66 = some (60, lc66u.strip, [.cell 4 true 2, .cell 5 true 2, .tmp 6]) := by kernel_rfl
theorem fn66u : FnOk Tryz.prog 66 60 lc66u [.cell 4 true 2, .cell 5 true 2, .tmp 6] := ⟨Tryz.call66, [2, 3, 25, 51], _, Tryz.func66, low66u⟩
end Go.Pw
set_option linter.unusedSimpArgs false
set_option linter.unusedVariables false
set_option maxHeartbeats 4000000
namespace Go.Pw
set_option maxRecDepth 2000
open Go Go.Proofs A1 A2 A3 A4
def cdL (s : Si) (t : St8) : Nat → List (Int × Int)
  | 0 => [(0, 1)]
  | k + 1 => if (k : Int) ∈ t.d ∨ ¬ (tkA s k).w > 0 then cdL s t k else cdL s t k ++ [frac (tkA s k).v (tkA s k).w]
theorem cdL_pos {s : Si} {t : St8} : ∀ k, 0 < (cdL s t k).length
  | 0 => by simp [cdL]
  | k + 1 => by have := cdL_pos (s := s) (t := t) k; rw [cdL]; split <;> simp <;> omega
theorem cdL_len {s : Si} {t : St8} : ∀ k, (cdL s t k).length ≤ k + 1
  | 0 => by simp [cdL]
  | k + 1 => by have := cdL_len (s := s) (t := t) k; rw [cdL]; split <;> simp <;> omega
theorem cdL_ok {s : Si} {t : St8} (h : SiOk s) : ∀ k, k ≤ s.tk.length → ∀ p ∈ cdL s t k, prOk p
  | 0, _, p, hp => by
    rw [cdL, List.mem_singleton] at hp; subst hp; decide
  | k + 1, hk, p, hp => by
    have ih := cdL_ok h k (by omega) (t := t)
    rw [cdL] at hp
    split at hp
    · exact ih p hp
    · rename_i hn
      have ht := h.t k (by omega)
      have e : tkA s (k : Int) = s.tk.getD k tk0 := by simp only [tkA, Int.toNat_natCast]
      rcases List.mem_append.1 hp with h1 | h1
      · exact ih p h1
      · rw [List.mem_singleton] at h1; subst h1
        have h2 : (tkA s (k : Int)).w ≠ 0 := by
          intro h0; refine hn (.inr ?_); omega
        exact prOk.frac (by rw [e]; exact ht.v) ⟨by rw [e]; exact ht.w, h2⟩
abbrev bsF (s : Si) (t : St8) (k : Nat) : Int × Int := minS (lsB s t) (cdL s t k)
theorem bsF_ok {s : Si} {t : St8} (h : SiOk s) : ∀ k, k ≤ s.tk.length → prOk (bsF s t k)
  | 0, _ => by show prOk (0, 1); decide
  | k + 1, hk => by
    have ih := bsF_ok h k (by omega) (t := t)
    have h2 := cdL_ok h (k + 1) hk (t := t)
    have hp := cdL_pos (s := s) (t := t) k
    have hne : cdL s t k ≠ [] := fun h0 => by rw [h0] at hp; simp at hp
    rw [bsF]
    rw [cdL] at h2 ⊢
    split
    · exact ih
    · rename_i hn
      rw [if_neg hn] at h2
      rw [minS_app hne]
      split
      · exact h2 _ (List.mem_append_right _ (List.mem_singleton.2 rfl))
      · exact ih
abbrev bpr (s : Si) (t : St8) : Int × Int := bsF s t s.tk.length
theorem C66 {s : Si} {t : St8} : (SiSm s ∧ t.d.length ≤ 1000000) → PFD Tryz.prog 66 [siv s, stv t] (.tup [frv (if orE s t = 0 then bpr s t else (0, 0)), frv (if orE s t = 0 then bdF s t (bpr s t) else (0, 0)), vi .i64 (orE s t)]) := fun hs => by
  have c1 := C141 (s := s) (t := t) hs
  by_cases h0 : orE s t = 0
  rotate_left
  · rw [if_neg h0, if_neg h0]
    generalize orE s t = e at *
    refine pi3 fn66u ?_
    (repeat' first | (refine Owe.same ?_; first | refine Owe.o ?_ | refine Owe.mk ?_ ?_) | (refine Fork.same ?_; (first | refine fkY ?_ | refine fkF ?_ | ((first | refine fkD ?_ ?_ | refine fkN ?_ ?_ | refine fkM ?_ ?_) <;> intro h))) | ((first | refine OpsL.same ?_ | refine OpsDL.same ?_); first | refine oK c1 rfl rfl rfl ?_) | refine MvQ.stay ?_)
    (refine rqK rfl ?_; (repeat' first | exact rfl | (refine qS ?_; constructor)))
  have hO : OnOk s t := by
    rw [orE] at h0
    split at h0
    · rename_i h1; exact OnOk.of h1
    · rename_i h1; exact absurd h0 h1
  have n6 := hO.ok.n
  have ld := hO.dl
  rw [if_pos h0, if_pos h0]
  rw [h0] at c1 ⊢
  have hB := bsF_ok hO.ok s.tk.length (Nat.le_refl _) (t := t)
  have c5 := C150 (s := s) (t := t) (p := bpr s t) ⟨hO, hB⟩
  have c4 := C146 (g := 147) (rows := [diD s t]) (l := cdL s t s.tk.length) (ok := prOk) (lt := lsI s t) ⟨cdL_pos _, by have := cdL_len (s := s) (t := t) s.tk.length; omega⟩ (fun i hi => cdL_ok hO.ok _ (Nat.le_refl _) _ (getD_mem (0, 0) hi)) (fun a b ha hb => C147 ⟨hO, ha, hb⟩)
  change PFD Tryz.prog 146 _ (frv (bpr s t)) at c4
  generalize bdF s t (bpr s t) = F at *
  generalize bpr s t = B at *
  refine pi3 fn66u ?_
  (repeat' first | (refine Owe.same ?_; first | refine Owe.o ?_ | refine Owe.mk ?_ ?_) | (refine Fork.same ?_; (first | refine fkY ?_ | refine fkF ?_ | ((first | refine fkD ?_ ?_ | refine fkN ?_ ?_ | refine fkM ?_ ?_) <;> intro h))) | ((first | refine OpsL.same ?_ | refine OpsDL.same ?_); first | refine oK c1 rfl rfl rfl ?_) | refine MvQ.stay ?_)
  (repeat' first | (refine Owe.same ?_; first | refine Owe.o ?_ | refine Owe.mk ?_ ?_) | (refine Fork.same ?_; (first | refine fkD ?_ ?_ | refine fkN ?_ ?_ | refine fkM ?_ ?_) <;> intro h) | refine MvQ.stay ?_)
  refine SatL.frB 2 [7] rfl rfl ?_
  show SatL _ _ _ _ _ _
  refine Sat.lp (fun k : Nat => ⟨[(30, vi .i64 k), (29, vi .i64 s.tk.length), (28, .c (tks s.tk)), (9, .c (.ms 2 (cdL s t k).length)), (7, .c (.rp (diD s t))), (6, vi .i64 0), (5, .c (.bp 1 0)), (4, .c (.bp 0 0))], [(2, rowv 104 2 r2 (0, 0) (cdL s t k)), (1, .box [int 0, int 0]), (0, .box [int 0, int 0])], 3⟩) (fun k => k ≤ s.tk.length) (fun k => s.tk.length - k) 0 [0, 1, 3] (Nat.zero_le _) ?_ ?_
  · (refine qis ?_ ?_ <;> (repeat' first | exact rfl | (refine qS ?_; constructor)))
  intro k hk
  refine Fork.dec (fun hlt => ?_) (fun hlt => ?_)
  · have hlt : k < s.tk.length := by omega
    have hcl := cdL_len (s := s) (t := t) k
    have ht := hO.ok.t k hlt
    have hv := ht.v
    have hw := ht.w
    have c2 := C144 (s := s) (t := t) (n := (k : Int)) (by omega)
    have e0 : tkA s (k : Int) = s.tk.getD k tk0 := by simp only [tkA, Int.toNat_natCast]
    by_cases hm : (k : Int) ∈ t.d
    · have e : cdL s t (k + 1) = cdL s t k := by rw [cdL, if_pos (.inl hm)]
      rw [decide_eq_true hm] at c2
      (repeat' first | (refine Owe.same ?_; first | refine Owe.o ?_ | refine Owe.mk ?_ ?_) | (refine Fork.same ?_; (first | refine fkY ?_ | refine fkF ?_ | ((first | refine fkD ?_ ?_ | refine fkN ?_ ?_ | refine fkM ?_ ?_) <;> intro h))) | ((first | refine OpsL.same ?_ | refine OpsDL.same ?_); first | refine oK c2 rfl rfl rfl ?_) | refine MvQ.stay ?_)
      refine again (k + 1) [0, 1, 2] hlt (by omega) ?_
      rw [e]
      (refine qis ?_ ?_ <;> (repeat' first | exact rfl | (refine qS ?_; constructor)))
    · rw [decide_eq_false hm] at c2
      by_cases hW : (s.tk.getD k tk0).w > 0
      · have e : cdL s t (k + 1) = cdL s t k ++ [frac (s.tk.getD k tk0).v (s.tk.getD k tk0).w] := by
          rw [cdL, if_neg (by rw [e0]; exact fun h => h.elim hm fun h => h hW), e0]
        have c3 := C145 (n := (s.tk.getD k tk0).v) (d := (s.tk.getD k tk0).w) ⟨by simp only [Md]; omega, by simp only [Md]; omega, by omega⟩
        generalize frac (s.tk.getD k tk0).v (s.tk.getD k tk0).w = f at *
        (repeat' first | (refine Owe.same ?_; first | refine Owe.o ?_ | refine Owe.mk ?_ ?_) | (refine Fork.same ?_; (first | refine fkY ?_ | refine fkF ?_ | ((first | refine fkD ?_ ?_ | refine fkN ?_ ?_ | refine fkM ?_ ?_) <;> intro h))) | ((first | refine OpsL.same ?_ | refine OpsDL.same ?_); first | refine oK c2 rfl rfl rfl ?_ | refine oK c3 rfl rfl rfl ?_) | refine MvQ.stay ?_)
        · refine again (k + 1) [0, 1, 4] hlt (by omega) ?_
          (refine qis ?_ ?_ <;> (repeat' first | exact rfl | (refine qS ?_; constructor)))
          · rw [e]; simp
          · exact e
        · exact absurd hW h
      · have e : cdL s t (k + 1) = cdL s t k := by rw [cdL, if_pos (.inr (by rw [e0]; exact hW))]
        (repeat' first | (refine Owe.same ?_; first | refine Owe.o ?_ | refine Owe.mk ?_ ?_) | (refine Fork.same ?_; (first | refine fkY ?_ | refine fkF ?_ | ((first | refine fkD ?_ ?_ | refine fkN ?_ ?_ | refine fkM ?_ ?_) <;> intro h))) | ((first | refine OpsL.same ?_ | refine OpsDL.same ?_); first | refine oK c2 rfl rfl rfl ?_) | refine MvQ.stay ?_)
        · exact absurd h hW
        · refine again (k + 1) [0, 1, 2] hlt (by omega) ?_
          rw [e]
          (refine qis ?_ ?_ <;> (repeat' first | exact rfl | (refine qS ?_; constructor)))
  · obtain rfl : k = s.tk.length := by omega
    (repeat' first | (refine Owe.same ?_; first | refine Owe.o ?_ | refine Owe.mk ?_ ?_) | (refine Fork.same ?_; (first | refine fkD ?_ ?_ | refine fkN ?_ ?_ | refine fkM ?_ ?_) <;> intro h) | refine MvQ.stay ?_)
    refine SatL.frz 9 2 rfl rfl (Nat.le_refl _) ?_
    refine SatL.go ?_
    (repeat' first | (refine Owe.same ?_; first | refine Owe.o ?_ | refine Owe.mk ?_ ?_) | (refine Fork.same ?_; (first | refine fkY ?_ | refine fkF ?_ | ((first | refine fkD ?_ ?_ | refine fkN ?_ ?_ | refine fkM ?_ ?_) <;> intro h))) | ((first | refine OpsL.same ?_ | refine OpsDL.same ?_); first | refine oK c4 rfl rfl rfl ?_ | refine oK c5 rfl rfl rfl ?_) | refine MvQ.stay ?_)
    (refine rqK rfl ?_; (repeat' first | exact rfl | (refine qS ?_; constructor)))
theorem C54w {a : Int} : (-9223372036854775807 ≤ a ∧ a ≤ 9223372036854775807) → PFD Tryz.prog 54 [vi .i64 a] (vi .i64 (max a (-a))) := fun ha => by
  refine pi1 fn54 ?_
  (repeat' first | (refine Owe.same ?_; first | refine Owe.o ?_ | refine Owe.mk ?_ ?_) | (refine Fork.same ?_; (first | refine fkD ?_ ?_ | refine fkN ?_ ?_ | refine fkM ?_ ?_) <;> intro h) | refine MvQ.stay ?_)
  (refine rqK rfl ?_; (repeat' first | exact rfl | (refine qS ?_; constructor)))
theorem C155w {a b : Int} : (w64 a ∧ w64 b ∧ 0 < b) → PFD Tryz.prog 155 [vi .i64 a, vi .i64 b] (vi .i64 (gcdI a b)) := fun ⟨ha, hb, h0⟩ => by
  refine pi1 fn155 ?_
  (repeat' first | (refine Owe.same ?_; first | refine Owe.o ?_ | refine Owe.mk ?_ ?_) | (refine Fork.same ?_; (first | refine fkD ?_ ?_ | refine fkN ?_ ?_ | refine fkM ?_ ?_) <;> intro h) | refine MvQ.stay ?_)
  refine Sat.lp0 (fun p : Int × Int => [(0, vi .i64 p.1), (1, vi .i64 p.2)]) (fun p => ((-9223372036854775808 ≤ p.1 ∧ p.1 ≤ 9223372036854775807) ∧ (-9223372036854775807 ≤ p.2 ∧ p.2 ≤ 9223372036854775807) ∧ (p.2 = 0 → -9223372036854775807 ≤ p.1)) ∧ Int.gcd p.1 p.2 = Int.gcd a b) (fun p => p.2.natAbs) (a, b) ⟨⟨by omega, by omega, by intro h; omega⟩, rfl⟩ (by ((first | refine qen ?_ | refine qvs ?_ | refine qeq ?_ | refine qst ?_ | refine qv ?_ | refine qc ?_ | refine qe ?_ | refine qcs ?_ | skip); (repeat' first | exact rfl | (refine qS ?_; constructor)))) ?_
  rintro ⟨x, y⟩ ⟨⟨m1, m2, m3⟩, hg⟩
  dsimp only at m1 m2 m3
  have m4 : y = 0 → -9223372036854775807 ≤ x := m3
  (repeat' first | (refine Owe.same ?_; first | refine Owe.o ?_ | refine Owe.mk ?_ ?_) | (refine Fork.same ?_; (first | refine fkD ?_ ?_ | refine fkN ?_ ?_ | refine fkM ?_ ?_) <;> intro h) | ((first | refine OpsL.same ?_ | refine OpsDL.same ?_); first | refine pK C54w rfl rfl ?_) | refine MvQ.stay ?_)
  · have hne : y ≠ 0 := h
    have h1 := tmod_abs (a := x) hne
    exact again0 (y, x.tmod y) ⟨⟨by dsimp only; omega, by dsimp only; omega, fun _ => by dsimp only; omega⟩, by rw [gcd_step]; exact hg⟩ h1 (by ((first | refine qen ?_ | refine qvs ?_ | refine qeq ?_ | refine qst ?_ | refine qv ?_ | refine qc ?_ | refine qe ?_ | refine qcs ?_ | skip); (repeat' first | exact rfl | (refine qS ?_; constructor))))
  · (refine rqK rfl ?_; (repeat' first | exact rfl | (refine qS ?_; constructor)))
    have h : y = 0 := h
    subst h
    exact (gcd_zero x).symm.trans (by simp only [gcdI]; rw [← hg])
theorem C153w {a b : Int} : (w64 a ∧ w64 b ∧ 0 < b) → PFD Tryz.prog 153 [vi .i64 a, vi .i64 b] (vi .i64 (gcdI a b)) := fun ⟨ha, hb, h0⟩ => by
  refine pi1 fn153 ?_
  (repeat' first | (refine Owe.same ?_; first | refine Owe.o ?_ | refine Owe.mk ?_ ?_) | (refine Fork.same ?_; (first | refine fkD ?_ ?_ | refine fkN ?_ ?_ | refine fkM ?_ ?_) <;> intro h) | refine MvQ.stay ?_)
  refine Sat.lp0 (fun p : Int × Int => [(0, vi .i64 p.1), (1, vi .i64 p.2)]) (fun p => ((-9223372036854775808 ≤ p.1 ∧ p.1 ≤ 9223372036854775807) ∧ (-9223372036854775807 ≤ p.2 ∧ p.2 ≤ 9223372036854775807) ∧ (p.2 = 0 → -9223372036854775807 ≤ p.1)) ∧ Int.gcd p.1 p.2 = Int.gcd a b) (fun p => p.2.natAbs) (a, b) ⟨⟨by omega, by omega, by intro h; omega⟩, rfl⟩ (by ((first | refine qen ?_ | refine qvs ?_ | refine qeq ?_ | refine qst ?_ | refine qv ?_ | refine qc ?_ | refine qe ?_ | refine qcs ?_ | skip); (repeat' first | exact rfl | (refine qS ?_; constructor)))) ?_
  rintro ⟨x, y⟩ ⟨⟨m1, m2, m3⟩, hg⟩
  dsimp only at m1 m2 m3
  have m4 : y = 0 → -9223372036854775807 ≤ x := m3
  (repeat' first | (refine Owe.same ?_; first | refine Owe.o ?_ | refine Owe.mk ?_ ?_) | (refine Fork.same ?_; (first | refine fkD ?_ ?_ | refine fkN ?_ ?_ | refine fkM ?_ ?_) <;> intro h) | refine MvQ.stay ?_)
  · have hne : y ≠ 0 := h
    have h1 := tmod_abs (a := x) hne
    exact again0 (y, x.tmod y) ⟨⟨by dsimp only; omega, by dsimp only; omega, fun _ => by dsimp only; omega⟩, by rw [gcd_step]; exact hg⟩ h1 (by ((first | refine qen ?_ | refine qvs ?_ | refine qeq ?_ | refine qst ?_ | refine qv ?_ | refine qc ?_ | refine qe ?_ | refine qcs ?_ | skip); (repeat' first | exact rfl | (refine qS ?_; constructor))))
  · have h : y = 0 := by omega
    subst h
    have := m3 rfl
    (repeat' first | (refine Owe.same ?_; first | refine Owe.o ?_ | refine Owe.mk ?_ ?_) | (refine Fork.same ?_; (first | refine fkD ?_ ?_ | refine fkN ?_ ?_ | refine fkM ?_ ?_) <;> intro h) | refine MvQ.stay ?_)
    (refine rqK rfl ?_; (repeat' first | exact rfl | (refine qS ?_; constructor)))
    exact (gcd_zero x).symm.trans (by simp only [gcdI]; rw [← hg])
abbrev lwP (p : Int × Int) : Prop := 0 < p.2 ∧ gcdI p.1 p.2 = 1
theorem C68 {p : Int × Int} : (w64 p.1 ∧ w64 p.2) → PFD Tryz.prog 68 [frv p] (vbl (decide (lwP p))) := fun h => by
  obtain ⟨q, hq⟩ : ∃ q, q = decide (lwP p) := ⟨_, rfl⟩
  rw [← hq]
  by_cases h0 : 0 < p.2
  · have c1 := C155w (a := p.1) (b := p.2) ⟨h.1, h.2, h0⟩
    replace hq : q = decide (gcdI p.1 p.2 = 1) := by rw [hq, decide_eq_decide]; exact ⟨fun h => h.2, fun h => ⟨h0, h⟩⟩
    generalize gcdI p.1 p.2 = g at *
    refine pi1 fn68 ?_
    (repeat' first | (refine Owe.same ?_; first | refine Owe.o ?_ | refine Owe.mk ?_ ?_) | (refine Fork.same ?_; (first | refine fkY ?_ | refine fkF ?_ | ((first | refine fkD ?_ ?_ | refine fkN ?_ ?_ | refine fkM ?_ ?_) <;> intro h))) | ((first | refine OpsL.same ?_ | refine OpsDL.same ?_); first | refine oK c1 rfl rfl rfl ?_) | refine MvQ.stay ?_)
    subst hq
    (refine rqK rfl ?_; (repeat' first | exact rfl | (refine qS ?_; constructor)))
  · have hq : q = false := by rw [hq, decide_eq_false_iff_not]; exact fun h => h0 h.1
    subst hq
    refine pi1 fn68 ?_
    (repeat' first | (refine Owe.same ?_; first | refine Owe.o ?_ | refine Owe.mk ?_ ?_) | (refine Fork.same ?_; (first | refine fkY ?_ | refine fkF ?_ | ((first | refine fkD ?_ ?_ | refine fkN ?_ ?_ | refine fkM ?_ ?_) <;> intro h))) | ((first | refine OpsL.same ?_ | refine OpsDL.same ?_); first | refine oK C46 rfl rfl rfl ?_) | refine MvQ.stay ?_)
    (refine rqK rfl ?_; (repeat' first | exact rfl | (refine qS ?_; constructor)))
def prcE (p : Int × Int) : Int := fstE [unl (lwP p) 3, unl (isN p.1 ∧ isN p.2) 2]
theorem prcE_ok {p : Int × Int} : prcE p = 0 ↔ lwP p ∧ isN p.1 ∧ isN p.2 := by
  rw [prcE, fst2, unl0 (by decide), unl0 (by decide)]
theorem prcE.ok {p : Int × Int} (h : prcE p = 0) : prOk p := by
  obtain ⟨h1, h2, h3⟩ := prcE_ok.1 h
  exact ⟨h2, h1.1, h3.2⟩
theorem C63 {p : Int × Int} : (w64 p.1 ∧ w64 p.2) → PFD Tryz.prog 63 [frv p] (vi .i64 (prcE p)) := fun h => by
  have c1 := C68 (p := p) h
  by_cases hl : lwP p
  · have e : prcE p = unl (isN p.1 ∧ isN p.2) 2 := by
      rw [prcE, fstE, if_pos (by rw [unl, decide_eq_true hl]; rfl), fstE]; split
      · rename_i h; rw [h]; rfl
      · rfl
    have hp := hl.1
    rw [decide_eq_true hl] at c1
    by_cases hn : isN p.1 ∧ isN p.2
    · rw [unl, decide_eq_true hn] at e
      rw [e]
      refine pi1 fn63 ?_
      (repeat' first | (refine Owe.same ?_; first | refine Owe.o ?_ | refine Owe.mk ?_ ?_) | (refine Fork.same ?_; (first | refine fkY ?_ | refine fkF ?_ | ((first | refine fkD ?_ ?_ | refine fkN ?_ ?_ | refine fkM ?_ ?_) <;> intro h))) | ((first | refine OpsL.same ?_ | refine OpsDL.same ?_); first | refine oK c1 rfl rfl rfl ?_) | refine MvQ.stay ?_)
      (refine rqK rfl ?_; (repeat' first | exact rfl | (refine qS ?_; constructor)))
    · rw [unl, decide_eq_false hn] at e
      rw [e]
      refine pi1 fn63 ?_
      (repeat' first | (refine Owe.same ?_; first | refine Owe.o ?_ | refine Owe.mk ?_ ?_) | (refine Fork.same ?_; (first | refine fkY ?_ | refine fkF ?_ | ((first | refine fkD ?_ ?_ | refine fkN ?_ ?_ | refine fkM ?_ ?_) <;> intro h))) | ((first | refine OpsL.same ?_ | refine OpsDL.same ?_); first | refine oK c1 rfl rfl rfl ?_) | refine MvQ.stay ?_)
      all_goals (refine rqK rfl ?_; (repeat' first | exact rfl | (refine qS ?_; constructor)))
  · have e : prcE p = 3 := by
      rw [prcE, fstE, unl, decide_eq_false hl]; rfl
    rw [decide_eq_false hl] at c1
    rw [e]
    refine pi1 fn63 ?_
    (repeat' first | (refine Owe.same ?_; first | refine Owe.o ?_ | refine Owe.mk ?_ ?_) | (refine Fork.same ?_; (first | refine fkY ?_ | refine fkF ?_ | ((first | refine fkD ?_ ?_ | refine fkN ?_ ?_ | refine fkM ?_ ?_) <;> intro h))) | ((first | refine OpsL.same ?_ | refine OpsDL.same ?_); first | refine oK c1 rfl rfl rfl ?_) | refine MvQ.stay ?_)
    (refine rqK rfl ?_; (repeat' first | exact rfl | (refine qS ?_; constructor)))
def bdE (s : Si) (t : St8) (p : Int × Int) : Int := if orE s t = 0 then prcE p else orE s t
theorem bdE_of {s : Si} {t : St8} {p : Int × Int} {b1 b2 : Bool} (h1 : b1 = decide (lwP p)) (h2 : b2 = decide (isN p.1 ∧ isN p.2)) : fstE [orE s t, unb b1 3, unb b2 2] = bdE s t p := by
  subst h1; subst h2
  rw [fstE, bdE]; rfl
theorem orE.ok {s : Si} {t : St8} (h0 : orE s t = 0) : OnOk s t := by
  rw [orE] at h0
  split at h0
  · rename_i h1; exact OnOk.of h1
  · rename_i h1; exact absurd h0 h1
theorem lb_t {p : Int × Int} (h : 0 < p.2) : decide (gcdI p.1 p.2 = 1) = decide (lwP p) := decide_eq_decide.2 ⟨fun h1 => ⟨h, h1⟩, fun h1 => h1.2⟩
theorem lb_f {p : Int × Int} (h : ¬ 0 < p.2) : false = decide (lwP p) := (decide_eq_false fun h1 => h h1.1).symm
theorem nb_t {p : Int × Int} (h : isN p.1) : decide (isN p.2) = decide (isN p.1 ∧ isN p.2) := decide_eq_decide.2 ⟨fun h1 => ⟨h, h1⟩, fun h1 => h1.2⟩
theorem nb_f {p : Int × Int} (h : ¬ isN p.1) : false = decide (isN p.1 ∧ isN p.2) := (decide_eq_false fun h1 => h h1.1).symm
theorem C67 {s : Si} {t : St8} {p : Int × Int} : (SiSm s ∧ t.d.length ≤ 1000000 ∧ w64 p.1 ∧ w64 p.2) → PFD Tryz.prog 67 [siv s, stv t, frv p] (.tup [frv (if bdE s t p = 0 then bdF s t p else (0, 0)), vi .i64 (bdE s t p)]) := fun ⟨hs, hd, hp⟩ => by
  have c1 := C141 (s := s) (t := t) ⟨hs, hd⟩
  have c5 : bdE s t p = 0 → PFD Tryz.prog 150 [div s t, frv p] (frv (if bdE s t p = 0 then bdF s t p else (0, 0))) := fun h => by
    rw [if_pos h]
    rw [bdE] at h
    split at h
    · rename_i h0
      exact C150 ⟨orE.ok h0, prcE.ok h⟩
    · rename_i h0; exact absurd h h0
  have n0 : ¬ bdE s t p = 0 → (0, 0) = (if bdE s t p = 0 then bdF s t p else (0, 0)) := fun h => (if_neg h).symm
  have of := @bdE_of s t p
  generalize (if bdE s t p = 0 then bdF s t p else (0, 0)) = R at *
  generalize bdE s t p = E at *
  generalize orE s t = oe at *
  refine pi2 fn67 ?_
  (repeat' first | (refine Owe.same ?_; first | refine Owe.o ?_ | refine Owe.mk ?_ ?_) | (refine Fork.same ?_; (first | refine fkD ?_ ?_ | refine fkN ?_ ?_ | refine fkM ?_ ?_) <;> intro h) | ((first | refine OpsL.same ?_ | refine OpsDL.same ?_); first | refine pK c1 rfl rfl ?_ | refine pK C153w rfl rfl ?_ | refine pK C152 rfl rfl ?_ | refine pK C154 rfl rfl ?_ | refine pK C151 rfl rfl ?_) | refine MvQ.stay ?_)
  · rename_i hA hB
    have e := of (lb_t hA) (nb_t hB)
    rw [e] at h
    have e0 := n0 h
    subst e0
    (repeat' first | (refine Owe.same ?_; first | refine Owe.o ?_ | refine Owe.mk ?_ ?_) | (refine Fork.same ?_; (first | refine fkD ?_ ?_ | refine fkN ?_ ?_ | refine fkM ?_ ?_) <;> intro h) | refine MvQ.stay ?_)
    (refine rqK rfl ?_; (repeat' first | exact rfl | (refine qS ?_; constructor)))
    exact e
  · rename_i hA hB
    have e := of (lb_t hA) (nb_t hB)
    rw [e] at h
    have c6 := c5 h
    subst h
    (repeat' first | (refine Owe.same ?_; first | refine Owe.o ?_ | refine Owe.mk ?_ ?_) | (refine Fork.same ?_; (first | refine fkY ?_ | refine fkF ?_ | ((first | refine fkD ?_ ?_ | refine fkN ?_ ?_ | refine fkM ?_ ?_) <;> intro h))) | ((first | refine OpsL.same ?_ | refine OpsDL.same ?_); first | refine oK c6 rfl rfl rfl ?_) | refine MvQ.stay ?_)
    (refine rqK rfl ?_; (repeat' first | exact rfl | (refine qS ?_; constructor)))
  · rename_i hA hB
    have e := of (lb_t hA) (nb_f hB)
    rw [e] at h
    have e0 := n0 h
    subst e0
    (repeat' first | (refine Owe.same ?_; first | refine Owe.o ?_ | refine Owe.mk ?_ ?_) | (refine Fork.same ?_; (first | refine fkD ?_ ?_ | refine fkN ?_ ?_ | refine fkM ?_ ?_) <;> intro h) | refine MvQ.stay ?_)
    (refine rqK rfl ?_; (repeat' first | exact rfl | (refine qS ?_; constructor)))
    exact e
  · rename_i hA hB
    have e := of (lb_t hA) (nb_f hB)
    rw [e] at h
    have c6 := c5 h
    subst h
    (repeat' first | (refine Owe.same ?_; first | refine Owe.o ?_ | refine Owe.mk ?_ ?_) | (refine Fork.same ?_; (first | refine fkY ?_ | refine fkF ?_ | ((first | refine fkD ?_ ?_ | refine fkN ?_ ?_ | refine fkM ?_ ?_) <;> intro h))) | ((first | refine OpsL.same ?_ | refine OpsDL.same ?_); first | refine oK c6 rfl rfl rfl ?_) | refine MvQ.stay ?_)
    (refine rqK rfl ?_; (repeat' first | exact rfl | (refine qS ?_; constructor)))
  · rename_i hA hB
    have e := of (lb_f hA) (nb_t hB)
    rw [e] at h
    have e0 := n0 h
    subst e0
    (repeat' first | (refine Owe.same ?_; first | refine Owe.o ?_ | refine Owe.mk ?_ ?_) | (refine Fork.same ?_; (first | refine fkD ?_ ?_ | refine fkN ?_ ?_ | refine fkM ?_ ?_) <;> intro h) | refine MvQ.stay ?_)
    (refine rqK rfl ?_; (repeat' first | exact rfl | (refine qS ?_; constructor)))
    exact e
  · rename_i hA hB
    have e := of (lb_f hA) (nb_t hB)
    rw [e] at h
    have c6 := c5 h
    subst h
    (repeat' first | (refine Owe.same ?_; first | refine Owe.o ?_ | refine Owe.mk ?_ ?_) | (refine Fork.same ?_; (first | refine fkY ?_ | refine fkF ?_ | ((first | refine fkD ?_ ?_ | refine fkN ?_ ?_ | refine fkM ?_ ?_) <;> intro h))) | ((first | refine OpsL.same ?_ | refine OpsDL.same ?_); first | refine oK c6 rfl rfl rfl ?_) | refine MvQ.stay ?_)
    (refine rqK rfl ?_; (repeat' first | exact rfl | (refine qS ?_; constructor)))
  · rename_i hA hB
    have e := of (lb_f hA) (nb_f hB)
    rw [e] at h
    have e0 := n0 h
    subst e0
    (repeat' first | (refine Owe.same ?_; first | refine Owe.o ?_ | refine Owe.mk ?_ ?_) | (refine Fork.same ?_; (first | refine fkD ?_ ?_ | refine fkN ?_ ?_ | refine fkM ?_ ?_) <;> intro h) | refine MvQ.stay ?_)
    (refine rqK rfl ?_; (repeat' first | exact rfl | (refine qS ?_; constructor)))
    exact e
  · rename_i hA hB
    have e := of (lb_f hA) (nb_f hB)
    rw [e] at h
    have c6 := c5 h
    subst h
    (repeat' first | (refine Owe.same ?_; first | refine Owe.o ?_ | refine Owe.mk ?_ ?_) | (refine Fork.same ?_; (first | refine fkY ?_ | refine fkF ?_ | ((first | refine fkD ?_ ?_ | refine fkN ?_ ?_ | refine fkM ?_ ?_) <;> intro h))) | ((first | refine OpsL.same ?_ | refine OpsDL.same ?_); first | refine oK c6 rfl rfl rfl ?_) | refine MvQ.stay ?_)
    (refine rqK rfl ?_; (repeat' first | exact rfl | (refine qS ?_; constructor)))
def hkI (s : Si) (t : St8) (c m a b : Int) : Nat → Int
  | 0 => c * b + a * m
  | k + 1 => if (k : Int) ∈ t.d then hkI s t c m a b k else hkI s t c m a b k + max 0 ((tkA s k).v * b - a * (tkA s k).w)
theorem hk_bd {s : Si} {t : St8} {p : Int × Int} : ∀ k, bdP s t p k = hkI s t 0 (t.w - s.res) p.1 p.2 k
  | 0 => by rw [bdP, hkI]; omega
  | k + 1 => by rw [bdP, hkI, hk_bd k]
theorem hk_c {s : Si} {t : St8} {c m a b e : Int} : ∀ k, hkI s t (c + e) m a b k = hkI s t c m a b k + e * b
  | 0 => by rw [hkI, hkI, Int.add_mul]; omega
  | k + 1 => by rw [hkI, hkI, hk_c k]; split <;> omega
theorem hk_m {s : Si} {t : St8} {c m a b e : Int} : ∀ k, hkI s t c (m + e) a b k = hkI s t c m a b k + a * e
  | 0 => by rw [hkI, hkI, Int.mul_add]; omega
  | k + 1 => by rw [hkI, hkI, hk_m k]; split <;> omega
theorem mxg {g x : Int} (h : 0 ≤ g) : max 0 (g * x) = g * max 0 x := by
  rcases Int.le_total 0 x with h1 | h1
  · rw [Int.max_eq_right h1, Int.max_eq_right (Int.mul_nonneg h h1)]
  · have := Int.mul_nonneg h (show 0 ≤ -x by omega)
    rw [Int.mul_neg] at this
    rw [Int.max_eq_left h1, Int.max_eq_left (by omega), Int.mul_zero]
theorem hk_g {s : Si} {t : St8} {c m a b g : Int} (hg : 0 ≤ g) : ∀ k, hkI s t c m (g * a) (g * b) k = g * hkI s t c m a b k
  | 0 => by rw [hkI, hkI]; grind
  | k + 1 => by
    rw [hkI, hkI, hk_g hg k]
    split
    · rfl
    · rw [show (tkA s k).v * (g * b) - g * a * (tkA s k).w = g * ((tkA s k).v * b - a * (tkA s k).w) by grind, mxg hg, Int.mul_add]
theorem mx_cv {la mu x q : Int} (h1 : 0 ≤ la) (h2 : 0 ≤ mu) : max 0 (la * x + mu * q) ≤ la * max 0 x + mu * max 0 q := by
  have a1 := Int.mul_le_mul_of_nonneg_left (Int.le_max_right 0 x) h1
  have a2 := Int.mul_le_mul_of_nonneg_left (Int.le_max_right 0 q) h2
  have a3 := Int.mul_nonneg h1 (Int.le_max_left 0 x)
  have a4 := Int.mul_nonneg h2 (Int.le_max_left 0 q)
  omega
theorem hk_cv {s : Si} {t : St8} {c m x1 x2 q1 q2 la mu : Int} (h1 : 0 ≤ la) (h2 : 0 ≤ mu) : ∀ k, hkI s t c m (la * x1 + mu * q1) (la * x2 + mu * q2) k ≤ la * hkI s t c m x1 x2 k + mu * hkI s t c m q1 q2 k
  | 0 => by rw [hkI, hkI, hkI]; grind
  | k + 1 => by
    have ih := hk_cv (s := s) (t := t) (c := c) (m := m) (x1 := x1) (x2 := x2) (q1 := q1) (q2 := q2) h1 h2 k
    rw [hkI, hkI, hkI]
    split
    · exact ih
    · have e : (tkA s k).v * (la * x2 + mu * q2) - (la * x1 + mu * q1) * (tkA s k).w = la * ((tkA s k).v * x2 - x1 * (tkA s k).w) + mu * ((tkA s k).v * q2 - q1 * (tkA s k).w) := by grind
      have := mx_cv (x := (tkA s k).v * x2 - x1 * (tkA s k).w) (q := (tkA s k).v * q2 - q1 * (tkA s k).w) h1 h2
      rw [e, Int.mul_add, Int.mul_add]
      omega
theorem hk_btw {s : Si} {t : St8} {c m x1 x2 q1 q2 b1 b2 : Int} {k : Nat} (hx : 0 < x2) (hq : 0 < q2) (hb : 0 < b2)
    (h : hkI s t c m q1 q2 k * x2 ≤ hkI s t c m x1 x2 k * q2)
    (hl : 0 < b2 * q1 - b1 * q2) (hm : 0 ≤ x2 * b1 - x1 * b2) : hkI s t c m b1 b2 k * x2 ≤ hkI s t c m x1 x2 k * b2 := by
  have hn : 0 < x2 * q1 - x1 * q2 := by
    have e1 : (x2 * q1 - x1 * q2) * b2 = (b2 * q1 - b1 * q2) * x2 + (x2 * b1 - x1 * b2) * q2 := by grind
    have e2 := Int.mul_pos hl hx
    have e3 := Int.mul_nonneg hm (Int.le_of_lt hq)
    exact Int.pos_of_mul_pos_left (b := b2) (by omega) hb |> fun h => h
  have cv := hk_cv (s := s) (t := t) (c := c) (m := m) (x1 := x1) (x2 := x2) (q1 := q1) (q2 := q2) (Int.le_of_lt hl) hm k
  rw [show (b2 * q1 - b1 * q2) * x1 + (x2 * b1 - x1 * b2) * q1 = (x2 * q1 - x1 * q2) * b1 by grind,
    show (b2 * q1 - b1 * q2) * x2 + (x2 * b1 - x1 * b2) * q2 = (x2 * q1 - x1 * q2) * b2 by grind, hk_g (Int.le_of_lt hn)] at cv
  generalize hkI s t c m b1 b2 k = B at *
  generalize hkI s t c m x1 x2 k = X at *
  generalize hkI s t c m q1 q2 k = Q at *
  have m1 := Int.mul_le_mul_of_nonneg_right cv (Int.le_of_lt hx)
  have m2 := Int.mul_le_mul_of_nonneg_left h hm
  refine Int.le_of_mul_le_mul_left (a := x2 * q1 - x1 * q2) ?_ hn
  have e1 : (x2 * q1 - x1 * q2) * (X * b2) = ((b2 * q1 - b1 * q2) * X) * x2 + (x2 * b1 - x1 * b2) * (X * q2) := by grind
  have e2 : (x2 * q1 - x1 * q2) * (B * x2) = (x2 * q1 - x1 * q2) * B * x2 := by grind
  have e3 : ((b2 * q1 - b1 * q2) * X + (x2 * b1 - x1 * b2) * Q) * x2 = ((b2 * q1 - b1 * q2) * X) * x2 + (x2 * b1 - x1 * b2) * (Q * x2) := by grind
  omega
theorem hk_btw' {s : Si} {t : St8} {c m x1 x2 q1 q2 b1 b2 : Int} {k : Nat} (hx : 0 < x2) (hq : 0 < q2) (hb : 0 < b2)
    (h : hkI s t c m q1 q2 k * x2 ≤ hkI s t c m x1 x2 k * q2)
    (hl : 0 < q2 * b1 - q1 * b2) (hm : 0 ≤ b2 * x1 - b1 * x2) : hkI s t c m b1 b2 k * x2 ≤ hkI s t c m x1 x2 k * b2 := by
  have hn : 0 < q2 * x1 - q1 * x2 := by
    have e1 : (q2 * x1 - q1 * x2) * b2 = (q2 * b1 - q1 * b2) * x2 + (b2 * x1 - b1 * x2) * q2 := by grind
    have e2 := Int.mul_pos hl hx
    have e3 := Int.mul_nonneg hm (Int.le_of_lt hq)
    exact Int.pos_of_mul_pos_left (b := b2) (by omega) hb |> fun h => h
  have cv := hk_cv (s := s) (t := t) (c := c) (m := m) (x1 := x1) (x2 := x2) (q1 := q1) (q2 := q2) (Int.le_of_lt hl) hm k
  rw [show (q2 * b1 - q1 * b2) * x1 + (b2 * x1 - b1 * x2) * q1 = (q2 * x1 - q1 * x2) * b1 by grind,
    show (q2 * b1 - q1 * b2) * x2 + (b2 * x1 - b1 * x2) * q2 = (q2 * x1 - q1 * x2) * b2 by grind, hk_g (Int.le_of_lt hn)] at cv
  generalize hkI s t c m b1 b2 k = B at *
  generalize hkI s t c m x1 x2 k = X at *
  generalize hkI s t c m q1 q2 k = Q at *
  have m1 := Int.mul_le_mul_of_nonneg_right cv (Int.le_of_lt hx)
  have m2 := Int.mul_le_mul_of_nonneg_left h hm
  refine Int.le_of_mul_le_mul_left (a := q2 * x1 - q1 * x2) ?_ hn
  have e1 : (q2 * x1 - q1 * x2) * (X * b2) = ((q2 * b1 - q1 * b2) * X) * x2 + (b2 * x1 - b1 * x2) * (X * q2) := by grind
  have e2 : (q2 * x1 - q1 * x2) * (B * x2) = (q2 * x1 - q1 * x2) * B * x2 := by grind
  have e3 : ((q2 * b1 - q1 * b2) * X + (b2 * x1 - b1 * x2) * Q) * x2 = ((q2 * b1 - q1 * b2) * X) * x2 + (b2 * x1 - b1 * x2) * (Q * x2) := by grind
  omega
def cnd (s : Si) (t : St8) (k : Nat) (q1 q2 : Int) : Prop := (q1 = 0 ∧ q2 = 1) ∨ ∃ j : Nat, j < k ∧ (j : Int) ∉ t.d ∧ 0 < (tkA s j).w ∧ q1 = (tkA s j).v ∧ q2 = (tkA s j).w
theorem cnd_pos {s : Si} {t : St8} {k : Nat} {q1 q2 : Int} (h : cnd s t k q1 q2) : 0 < q2 := by
  rcases h with ⟨_, h⟩ | ⟨j, _, _, h, _, h1⟩ <;> omega
theorem cnd_up {s : Si} {t : St8} {k : Nat} {q1 q2 : Int} (h : cnd s t k q1 q2) : cnd s t (k + 1) q1 q2 := by
  rcases h with h | ⟨j, h0, h⟩
  · exact .inl h
  · exact .inr ⟨j, by omega, h⟩
theorem hk_least {s : Si} {t : St8} : ∀ (k : Nat) (c m x1 x2 : Int), (∀ j : Nat, j < k → 0 ≤ (tkA s j).w) → 0 ≤ x1 → 0 < x2 →
    (∃ q1 q2, cnd s t k q1 q2 ∧ hkI s t c m q1 q2 k * x2 ≤ hkI s t c m x1 x2 k * q2) ∨
    (m < 0 ∧ ∀ y1 y2, 0 < y2 → x1 * y2 ≤ y1 * x2 → hkI s t c m y1 y2 k * x2 ≤ hkI s t c m x1 x2 k * y2)
  | 0, c, m, x1, x2, _, h1, h2 => by
    by_cases hm : 0 ≤ m
    · refine .inl ⟨0, 1, .inl ⟨rfl, rfl⟩, ?_⟩
      have := Int.mul_nonneg h1 hm
      rw [hkI, hkI]; grind
    · refine .inr ⟨by omega, fun y1 y2 hy hle => ?_⟩
      have := Int.mul_nonneg (show 0 ≤ -m by omega) (show 0 ≤ y1 * x2 - x1 * y2 by omega)
      rw [hkI, hkI]; grind
  | k + 1, c, m, x1, x2, hw, h1, h2 => by
    have hw' : ∀ j : Nat, j < k → 0 ≤ (tkA s j).w := fun j hj => hw j (by omega)
    by_cases hd : (k : Int) ∈ t.d
    · have e : ∀ a b, hkI s t c m a b (k + 1) = hkI s t c m a b k := fun a b => by rw [hkI, if_pos hd]
      simp only [e]
      rcases hk_least k c m x1 x2 hw' h1 h2 with ⟨q1, q2, hq, h⟩ | h
      · exact .inl ⟨q1, q2, cnd_up hq, h⟩
      · exact .inr h
    have e : ∀ a b, hkI s t c m a b (k + 1) = hkI s t c m a b k + max 0 ((tkA s k).v * b - a * (tkA s k).w) := fun a b => by rw [hkI, if_neg hd]
    have hwk := hw k (by omega)
    obtain ⟨v, hv⟩ : ∃ v, v = (tkA s k).v := ⟨_, rfl⟩
    obtain ⟨w, hw0⟩ : ∃ w, w = (tkA s k).w := ⟨_, rfl⟩
    rw [← hv, ← hw0] at e
    rw [← hw0] at hwk
    by_cases h0 : w = 0
    · have e2 : ∀ a b, 0 < b → hkI s t c m a b (k + 1) = hkI s t (c + max 0 v) m a b k := fun a b hb => by
        rw [e, hk_c, h0, Int.mul_zero, Int.sub_zero, Int.mul_comm v b, mxg (Int.le_of_lt hb), Int.mul_comm b]
      rcases hk_least k (c + max 0 v) m x1 x2 hw' h1 h2 with ⟨q1, q2, hq, h⟩ | ⟨hm, h⟩
      · exact .inl ⟨q1, q2, cnd_up hq, by rw [e2 _ _ h2, e2 _ _ (cnd_pos hq)]; exact h⟩
      · exact .inr ⟨hm, fun y1 y2 hy hle => by rw [e2 _ _ h2, e2 _ _ hy]; exact h y1 y2 hy hle⟩
    have hwp : 0 < w := by omega
    have hcb : cnd s t (k + 1) v w := .inr ⟨k, by omega, hd, by omega, hv, hw0⟩
    -- the pieces of the last term
    have eL : ∀ a b, a * w ≤ v * b → hkI s t c m a b (k + 1) = hkI s t (c + v) (m + -w) a b k := fun a b h => by
      rw [e, hk_c, hk_m, Int.max_eq_right (by omega)]
      have : a * -w = -(a * w) := Int.mul_neg ..
      omega
    have eR : ∀ a b, v * b ≤ a * w → hkI s t c m a b (k + 1) = hkI s t c m a b k := fun a b h => by
      rw [e, Int.max_eq_left (by omega), Int.add_zero]
    have hvw : v * w ≤ v * w := Int.le_refl _
    rcases Int.le_total (x1 * w) (v * x2) with hx | hx
    · rcases hk_least k (c + v) (m + -w) x1 x2 hw' h1 h2 with ⟨q1, q2, hq, h⟩ | ⟨hm, h⟩
      · have hq2 := cnd_pos hq
        by_cases hqb : q1 * w ≤ v * q2
        · exact .inl ⟨q1, q2, cnd_up hq, by rw [eL _ _ hx, eL _ _ hqb]; exact h⟩
        · refine .inl ⟨v, w, hcb, ?_⟩
          rw [eL _ _ hx, eL _ _ hvw]
          refine hk_btw h2 hq2 hwp h ?_ ?_
          · have : w * q1 = q1 * w := Int.mul_comm ..
            omega
          · have : x2 * v = v * x2 := Int.mul_comm ..
            omega
      · refine .inl ⟨v, w, hcb, ?_⟩
        rw [eL _ _ hx, eL _ _ hvw]
        exact h v w hwp hx
    · rcases hk_least k c m x1 x2 hw' h1 h2 with ⟨q1, q2, hq, h⟩ | ⟨hm, h⟩
      · have hq2 := cnd_pos hq
        by_cases hqb : v * q2 ≤ q1 * w
        · exact .inl ⟨q1, q2, cnd_up hq, by rw [eR _ _ hx, eR _ _ hqb]; exact h⟩
        · refine .inl ⟨v, w, hcb, ?_⟩
          rw [eR _ _ hx, eR _ _ hvw]
          refine hk_btw' h2 hq2 hwp h ?_ ?_
          · have : q2 * v = v * q2 := Int.mul_comm ..
            omega
          · have : w * x1 = x1 * w := Int.mul_comm ..
            omega
      · refine .inr ⟨hm, fun y1 y2 hy hle => ?_⟩
        have hyb : v * y2 ≤ y1 * w := by
          have a1 := Int.mul_le_mul_of_nonneg_right hx (Int.le_of_lt hy)
          have a2 := Int.mul_le_mul_of_nonneg_right hle (Int.le_of_lt hwp)
          refine Int.le_of_mul_le_mul_right (a := x2) ?_ h2
          have e1 : v * y2 * x2 = v * x2 * y2 := by grind
          have e2 : x1 * w * y2 = x1 * y2 * w := by grind
          have e3 : y1 * w * x2 = y1 * x2 * w := by grind
          omega
        rw [eR _ _ hx, eR _ _ hyb]
        exact h y1 y2 hy hle
theorem frac_g {n d : Int} (hd : 0 < d) : n = gcdI n d * (frac n d).1 ∧ d = gcdI n d * (frac n d).2 := by
  have h1 : gcdI n d ∣ n := Int.gcd_dvd_left ..
  have h2 : gcdI n d ∣ d := Int.gcd_dvd_right ..
  exact ⟨(Int.mul_tdiv_cancel' h1).symm, (Int.mul_tdiv_cancel' h2).symm⟩
theorem frac_lw {n d : Int} (hd : 0 < d) : lwP (frac n d) := by
  have hg := gcd_pos (n := n) hd
  obtain ⟨e1, e2⟩ := frac_g (n := n) hd
  refine ⟨(frac_den (M := d) ⟨hd, Int.le_refl _⟩).1, ?_⟩
  have e : Int.gcd n d = Int.gcd n d * Int.gcd (frac n d).1 (frac n d).2 := by
    have h := Int.gcd_mul_left (gcdI n d) (frac n d).1 (frac n d).2
    rw [← e1, ← e2] at h
    simpa [gcdI] using h
  have hp : 0 < Int.gcd n d := Int.gcd_pos_of_ne_zero_right _ (by omega)
  have := Nat.eq_of_mul_eq_mul_left hp ((Nat.mul_one _).trans e)
  simp only [gcdI, ← this]; rfl
theorem frac_eq {n d : Int} (hd : 0 < d) : (frac n d).1 * d = n * (frac n d).2 := by
  obtain ⟨e1, e2⟩ := frac_g (n := n) hd
  generalize frac n d = f at *
  generalize gcdI n d = g at *
  subst e1; subst e2; grind
abbrev leF (a b : Int × Int) : Prop := a.1 * b.2 ≤ b.1 * a.2
theorem leF_tr {a b c : Int × Int} (ha : 0 < a.2) (hb : 0 < b.2) (hc : 0 < c.2) (h1 : leF a b) (h2 : leF b c) : leF a c := by
  have m1 := Int.mul_le_mul_of_nonneg_right h1 (Int.le_of_lt hc)
  have m2 := Int.mul_le_mul_of_nonneg_right h2 (Int.le_of_lt ha)
  refine Int.le_of_mul_le_mul_right (a := b.2) ?_ hb
  have e1 : a.1 * c.2 * b.2 = a.1 * b.2 * c.2 := by grind
  have e2 : c.1 * a.2 * b.2 = c.1 * b.2 * a.2 := by grind
  have e3 : b.1 * a.2 * c.2 = b.1 * c.2 * a.2 := by grind
  omega
theorem cmpF_le {a b : Int × Int} : cmpF a b ≤ 0 ↔ leF a b := by
  rw [cmpF, cmpI]; split <;> (try split) <;> simp only [leF] <;> omega
theorem lsB_le {s : Si} {t : St8} {a b : Int × Int} : (lsB s t a b = true → leF (bdF s t a) (bdF s t b)) ∧ (lsB s t a b = false → leF (bdF s t b) (bdF s t a)) := by
  have hl : lsB s t a b = decide (fstE [cmpF (bdF s t a) (bdF s t b), cmpF a b] < 0) := rfl
  rw [hl]
  generalize (bdF s t a) = x at *
  generalize (bdF s t b) = y at *
  refine ⟨fun h => fst_le (of_decide_eq_true h), fun h => ?_⟩
  have h := of_decide_eq_false h
  simp only [leF]
  by_cases h2 : x.1 * y.2 < y.1 * x.2
  · exact absurd (by show fstE [cmpF x y, cmpF a b] < 0; exact fst_lt h2) h
  · omega
theorem minS_le {s : Si} {t : St8} (hO : SiOk s) : ∀ (l : List (Int × Int)), (∀ p ∈ l, prOk p) → ∀ x ∈ l, leF (bdF s t (minS (lsB s t) l)) (bdF s t x) := by
  have hd : ∀ p, prOk p → 0 < (bdF s t p).2 := fun p hp => (frac_den hp.2).1
  have key : ∀ (l : List (Int × Int)) (m : Int × Int), prOk m → (∀ p ∈ l, prOk p) → prOk (l.foldl (fun m y => if lsB s t y m = true then y else m) m) ∧ leF (bdF s t (l.foldl (fun m y => if lsB s t y m = true then y else m) m)) (bdF s t m) ∧ ∀ x ∈ l, leF (bdF s t (l.foldl (fun m y => if lsB s t y m = true then y else m) m)) (bdF s t x) := fun l => by
    induction l with
    | nil => exact fun m hm _ => ⟨hm, Int.le_refl _, fun x hx => by cases hx⟩
    | cons y l ih =>
      intro m hm hp
      have hy := hp y (List.mem_cons_self ..)
      have hl : ∀ p ∈ l, prOk p := fun p h => hp p (List.mem_cons_of_mem _ h)
      rw [List.foldl_cons]
      cases hb : lsB s t y m with
      | true =>
        obtain ⟨a1, a2, a3⟩ := ih y hy hl
        simp only [if_true]
        refine ⟨a1, leF_tr (hd _ a1) (hd _ hy) (hd _ hm) a2 (lsB_le.1 hb), fun x hx => ?_⟩
        rcases List.mem_cons.1 hx with h | h
        · subst h; exact a2
        · exact a3 x h
      | false =>
        obtain ⟨a1, a2, a3⟩ := ih m hm hl
        simp only [Bool.false_eq_true, if_false]
        refine ⟨a1, a2, fun x hx => ?_⟩
        rcases List.mem_cons.1 hx with h | h
        · subst h; exact leF_tr (hd _ a1) (hd _ hm) (hd _ hy) a2 (lsB_le.2 hb)
        · exact a3 x h
  intro l hp x hx
  cases l with
  | nil => cases hx
  | cons m l =>
    obtain ⟨_, a2, a3⟩ := key l m (hp m (List.mem_cons_self ..)) fun p h => hp p (List.mem_cons_of_mem _ h)
    rcases List.mem_cons.1 hx with h | h
    · subst h; exact a2
    · exact a3 x h
theorem cdL_cnd {s : Si} {t : St8} : ∀ {k : Nat} {q1 q2 : Int}, cnd s t k q1 q2 → frac q1 q2 ∈ cdL s t k
  | 0, q1, q2, h => by
    rcases h with ⟨h1, h2⟩ | ⟨j, h0, _⟩
    · subst h1; subst h2; rw [cdL]; decide
    · omega
  | k + 1, q1, q2, h => by
    rw [cdL]
    by_cases hk : cnd s t k q1 q2
    · have := cdL_cnd hk
      split
      · exact this
      · exact List.mem_append_left _ this
    · rcases h with h | ⟨j, h0, h1, h2, h3, h4⟩
      · exact absurd (.inl h) hk
      · have : j = k := by
          rcases Nat.lt_or_ge j k with h | h
          · exact absurd (.inr ⟨j, h, h1, h2, h3, h4⟩) hk
          · omega
        subst this
        rw [if_neg (fun h => h.elim h1 fun h => h h2), h3, h4]
        exact List.mem_append_right _ (List.mem_singleton.2 rfl)
theorem leF_fr {h1 h2 x1 x2 : Int} (hx1 : 0 < x1) (hx2 : 0 < x2) (h : h1 * x2 ≤ h2 * x1) : leF (frac h1 x1) (frac h2 x2) := by
  have e1 := frac_eq (n := h1) hx1
  have e2 := frac_eq (n := h2) hx2
  have d1 := (frac_den (n := h1) (M := x1) ⟨hx1, Int.le_refl _⟩).1
  have d2 := (frac_den (n := h2) (M := x2) ⟨hx2, Int.le_refl _⟩).1
  generalize frac h1 x1 = f1 at *
  generalize frac h2 x2 = f2 at *
  have m1 := Int.mul_le_mul_of_nonneg_right h (Int.le_of_lt (Int.mul_pos d1 d2))
  refine Int.le_of_mul_le_mul_right (a := x1 * x2) ?_ (Int.mul_pos hx1 hx2)
  have a1 : f1.1 * f2.2 * (x1 * x2) = h1 * x2 * (f1.2 * f2.2) := by
    have : f1.1 * f2.2 * (x1 * x2) = (f1.1 * x1) * (f2.2 * x2) := by grind
    rw [this, e1]; grind
  have a2 : f2.1 * f1.2 * (x1 * x2) = h2 * x1 * (f1.2 * f2.2) := by
    have : f2.1 * f1.2 * (x1 * x2) = (f2.1 * x2) * (f1.2 * x1) := by grind
    rw [this, e2]; grind
  omega
theorem bpr_least {s : Si} {t : St8} {p : Int × Int} (hO : OnOk s t) (hr : s.res ≤ t.w) (hp : prOk p) : leF (bdF s t (bpr s t)) (bdF s t p) := by
  have hw : ∀ j : Nat, j < s.tk.length → 0 ≤ (tkA s j).w := fun j hj => by
    have := (hO.ok.t j hj).w
    have e : tkA s (j : Int) = s.tk.getD j tk0 := by simp only [tkA, Int.toNat_natCast]
    rw [e]; omega
  have hbo := bsF_ok (t := t) hO.ok s.tk.length (Nat.le_refl _)
  rcases hk_least s.tk.length 0 (t.w - s.res) p.1 p.2 hw hp.1.1 hp.2.1 with ⟨q1, q2, hq, h⟩ | ⟨h, _⟩
  · have hq2 := cnd_pos hq
    have hm := cdL_cnd hq
    have hfo := cdL_ok (t := t) hO.ok s.tk.length (Nat.le_refl _) _ hm
    refine leF_tr (frac_den hbo.2).1 (frac_den hfo.2).1 (frac_den hp.2).1 (minS_le hO.ok _ (cdL_ok hO.ok s.tk.length (Nat.le_refl _)) _ hm) ?_
    refine leF_fr hfo.2.1 hp.2.1 ?_
    rw [hk_bd, hk_bd]
    obtain ⟨e1, e2⟩ := frac_g (n := q1) hq2
    have hg := gcd_pos (n := q1) hq2
    generalize frac q1 q2 = f at *
    generalize gcdI q1 q2 = g at *
    subst e1; subst e2
    rw [hk_g (Int.le_of_lt hg)] at h
    refine Int.le_of_mul_le_mul_left (a := g) ?_ hg
    have a1 : ∀ x y z : Int, x * (y * z) = x * y * z := fun x y z => (Int.mul_assoc ..).symm
    have e3 : ∀ X : Int, X * (g * f.2) = g * (X * f.2) := fun X => by grind
    rw [a1]
    rw [e3] at h
    exact h
  · omega
def acP (pm : Nat → Bool) (s : Si) : St8 → List Int → Prop
  | _, [] => True
  | t, n :: q => spE s t n = 0 ∧ pm n.toNat = true ∧ acP pm s (spS s t n) q
theorem acP_nn {pm : Nat → Bool} {s : Si} : ∀ {q : List Int} {t : St8}, OnOk s t → acP pm s t q → ∀ n ∈ q, (0 ≤ n ∧ n < s.tk.length) ∧ pm n.toNat = true
  | [], t, _, _, n, hn => by cases hn
  | m :: q, t, hO, h, n, hn => by
    obtain ⟨h1, h2, h3⟩ := h
    obtain ⟨⟨e, _, _, h4⟩, hO', _⟩ := spS_ok hO h1
    rcases List.mem_cons.1 hn with h | h
    · subst h; exact ⟨h4, h2⟩
    · rw [← e] at hO'; exact acP_nn hO' h3 n h
theorem acP_len {pm : Nat → Bool} {s : Si} : ∀ {q : List Int} {t : St8}, OnOk s t → acP pm s t q → t.d.length + q.length ≤ s.tk.length
  | [], t, hO, _ => hO.dl
  | m :: q, t, hO, ⟨h1, h2, h3⟩ => by
    obtain ⟨⟨e, _, _, h4⟩, hO', hl⟩ := spS_ok hO h1
    rw [← e] at hO' hl
    have := acP_len hO' h3
    rw [List.length_cons]; omega
def bfL : List Int → List Int → Bool
  | [], [] => false
  | [], _ :: _ => true
  | _ :: _, [] => false
  | a :: l, b :: m => if a = b then bfL l m else decide (a < b)
structure GpS (pm : Nat → Bool) (s : Si) (t : St8) (p : List Int) (b R : List Int × Int) (ok : List Int → Prop) : Prop where
  ge : b.2 ≤ R.2
  all : ∀ q, acP pm s t q → ok q → vaI s (p ++ q) ≤ R.2
  is : R = b ∨ ∃ q, acP pm s t q ∧ ok q ∧ R = (p ++ q, vaI s (p ++ q)) ∧ b.2 < R.2 ∧ ∀ q', acP pm s t q' → ok q' → vaI s (p ++ q') = R.2 → bfL q' q = false
theorem gp_spec {pm : Nat → Bool} {s : Si} : ∀ (f : Nat) (t : St8) (p : List Int) (b : List Int × Int), OnOk s t → s.tk.length ≤ t.d.length + f → GpS pm s t p b (gpF pm s f t p b) (fun _ => True)
  | f, t, p, b, hO, hf => by
    have hu : GpS pm s t p b (updP s p b) (fun q => q = []) := by
      rw [updP]
      split
      · refine ⟨by show b.2 ≤ vaI s p; omega, fun q _ hq => by subst hq; rw [List.append_nil]; exact Int.le_refl _, .inr ⟨[], trivial, rfl, by rw [List.append_nil], by assumption, fun q' _ h _ => by subst h; rfl⟩⟩
      · refine ⟨Int.le_refl _, fun q _ hq => by subst hq; rw [List.append_nil]; omega, .inl rfl⟩
    match f with
    | 0 =>
      rw [gpF]
      have hn : ∀ q, acP pm s t q → q = [] := fun q hq => by
        have := acP_len hO hq
        cases q with
        | nil => rfl
        | cons a q => rw [List.length_cons] at this; omega
      refine ⟨hu.ge, fun q hq _ => hu.all q hq (hn q hq), ?_⟩
      rcases hu.is with h | ⟨q, a, c, d, e, g⟩
      · exact .inl h
      · exact .inr ⟨q, a, trivial, d, e, fun q' a' _ => g q' a' (hn q' a')⟩
    | f + 1 =>
      rw [gpF]
      generalize updP s p b = u at *
      have key : ∀ k, k ≤ s.tk.length → GpS pm s t p u (gpK pm s f t p u k) (fun q => ∃ a l, q = a :: l ∧ a < k) := fun k => by
        induction k with
        | zero =>
          intro _
          rw [gpK]
          refine ⟨Int.le_refl _, fun q hq ⟨a, l, e, ha⟩ => ?_, .inl rfl⟩
          subst e
          have := (acP_nn hO hq a (List.mem_cons_self ..)).1
          omega
        | succ k ih =>
          intro hk
          have ih := ih (by omega)
          rw [gpK]
          have hno : ¬ (pm k = true ∧ spE s t k = 0) → GpS pm s t p u (gpK pm s f t p u k) (fun q => ∃ a l, q = a :: l ∧ a < ((k + 1 : Nat) : Int)) := fun hc => by
            have hlt : ∀ q, acP pm s t q → (∃ a l, q = a :: l ∧ a < ((k + 1 : Nat) : Int)) → ∃ a l, q = a :: l ∧ a < (k : Int) := fun q hq ⟨a, l, e, ha⟩ => by
              refine ⟨a, l, e, ?_⟩
              rcases Int.lt_or_le a k with h | h
              · exact h
              · have : a = k := by omega
                subst this; subst e
                exact absurd ⟨by have := hq.2.1; rwa [Int.toNat_natCast] at this, hq.1⟩ hc
            refine ⟨ih.ge, fun q hq ho => ih.all q hq (hlt q hq ho), ?_⟩
            rcases ih.is with h | ⟨q, a, ⟨a0, l0, e0, h0⟩, d, e, g⟩
            · exact .inl h
            · exact .inr ⟨q, a, ⟨a0, l0, e0, by omega⟩, d, e, fun q' a' o' => g q' a' (hlt q' a' o')⟩
          split
          · rename_i hc
            have hc' : pm k = true ∧ spE s t k = 0 := by
              first | exact hc | exact ⟨hc.2, hc.1⟩
            obtain ⟨⟨e, _, _, h4⟩, hO', hl⟩ := spS_ok hO hc'.2
            rw [← e] at hO' hl
            have sub := gp_spec (pm := pm) f (spS s t k) (p ++ [(k : Int)]) (gpK pm s f t p u k) hO' (by omega)
            generalize gpK pm s f t p u k = A at *
            generalize gpF pm s f (spS s t k) (p ++ [(k : Int)]) A = R at *
            have ea : ∀ q, p ++ [(k : Int)] ++ q = p ++ (k : Int) :: q := fun q => by simp
            have hcons : ∀ q, acP pm s t ((k : Int) :: q) → acP pm s (spS s t k) q := fun q h => h.2.2
            refine ⟨Int.le_trans ih.ge sub.ge, fun q hq ⟨a, l, e1, ha⟩ => ?_, ?_⟩
            · subst e1
              rcases Int.lt_or_le a k with h | h
              · exact Int.le_trans (ih.all _ hq ⟨a, l, rfl, h⟩) sub.ge
              · have : a = k := by omega
                subst this
                have := sub.all l hq.2.2 trivial
                rwa [ea] at this
            · rcases sub.is with h | ⟨q, a, _, d, e1, g⟩
              · rw [h]
                rcases ih.is with h1 | ⟨q, a, ⟨a0, l0, e0, h0⟩, d, e1, g⟩
                · exact .inl h1
                · refine .inr ⟨q, a, ⟨a0, l0, e0, by omega⟩, d, e1, fun q' a' ⟨a1, l1, e2, h2⟩ hv => ?_⟩
                  rcases Int.lt_or_le a1 k with h | h
                  · exact g q' a' ⟨a1, l1, e2, h⟩ hv
                  · subst e2; subst e0
                    rw [bfL, if_neg (by omega)]
                    exact decide_eq_false (by omega)
              · refine .inr ⟨(k : Int) :: q, ⟨hc'.2, by rw [Int.toNat_natCast]; exact hc'.1, a⟩, ⟨k, q, rfl, by omega⟩, by rw [← ea]; exact d, Int.lt_of_le_of_lt ih.ge e1, fun q' a' ⟨a1, l1, e2, h2⟩ hv => ?_⟩
                subst e2
                rcases Int.lt_or_le a1 k with h | h
                · have := ih.all _ a' ⟨a1, l1, rfl, h⟩
                  omega
                · have : a1 = k := by omega
                  subst this
                  rw [bfL, if_pos rfl]
                  exact g l1 a'.2.2 trivial (by rw [ea]; exact hv)
          · rename_i hc
            exact hno (by first | exact hc | exact fun h => hc ⟨h.2, h.1⟩)
      have kk := key s.tk.length (Nat.le_refl _)
      generalize gpK pm s f t p u s.tk.length = R at *
      have split : ∀ q, acP pm s t q → q = [] ∨ ∃ a l, q = a :: l ∧ a < (s.tk.length : Int) := fun q hq => by
        cases q with
        | nil => exact .inl rfl
        | cons a l => exact .inr ⟨a, l, rfl, (acP_nn hO hq a (List.mem_cons_self ..)).1.2⟩
      refine ⟨Int.le_trans hu.ge kk.ge, fun q hq _ => ?_, ?_⟩
      · rcases split q hq with h | h
        · exact Int.le_trans (hu.all q hq h) kk.ge
        · exact kk.all q hq h
      · rcases kk.is with h | ⟨q, a, o, d, e, g⟩
        · rw [h]
          rcases hu.is with h1 | ⟨q, a, o, d, e, g⟩
          · exact .inl h1
          · subst o
            refine .inr ⟨[], a, trivial, d, e, fun q' _ _ _ => ?_⟩
            cases q' <;> rfl
        · refine .inr ⟨q, a, trivial, d, Int.lt_of_le_of_lt hu.ge e, fun q' a' _ hv => ?_⟩
          rcases split q' a' with h | h
          · subst h
            have := hu.all [] trivial rfl
            omega
          · exact g q' a' h hv
theorem vaP_cons {s : Si} {n : Int} {q : List Int} : ∀ k, vaP s (n :: q) (k + 1) = (tkA s n).v + vaP s q k
  | 0 => by rw [vaP, vaP, vaP]; show 0 + (tkA s n).v = _; omega
  | k + 1 => by rw [vaP, vaP_cons k, vaP, Int.add_assoc]; rfl
theorem vaI_cons {s : Si} {n : Int} {q : List Int} : vaI s (n :: q) = (tkA s n).v + vaI s q := by
  show vaP s (n :: q) (q.length + 1) = _
  rw [vaP_cons]
theorem reB_w {s : Si} {t : St8} (h : DvB s t) (hr : reB s t = true) : s.res ≤ t.w := by
  have h1 := (of_decide_eq_true hr).1
  have h2 := hmT_bd h
  have h3 := h.ok.e
  have := Int.mul_nonneg h2.1 (show 0 ≤ s.swim by omega)
  omega
theorem bdP_step {s : Si} {t u : St8} {p : Int × Int} {n : Nat} (hn : (n : Int) ∉ t.d) (hd : ∀ m, m ∈ u.d ↔ m = (n : Int) ∨ m ∈ t.d) : ∀ k, bdP s t p k = bdP s u p k + p.1 * (t.w - u.w) + (if n < k then max 0 ((tkA s n).v * p.2 - p.1 * (tkA s n).w) else 0)
  | 0 => by rw [bdP, bdP, if_neg (by omega)]; grind
  | k + 1 => by
    have ih := bdP_step (s := s) (p := p) hn hd k
    rw [bdP, bdP]
    by_cases hk : (k : Int) ∈ t.d
    · rw [if_pos hk, if_pos ((hd _).2 (.inr hk)), ih]
      have : k ≠ n := by intro e; subst e; exact hn hk
      by_cases h1 : n < k
      · rw [if_pos h1, if_pos (by omega)]
      · rw [if_neg h1, if_neg (by omega)]
    · by_cases h1 : k = n
      · subst h1
        rw [if_neg hk, if_pos ((hd _).2 (.inl rfl)), ih, if_neg (by omega), if_pos (by omega)]
        omega
      · rw [if_neg hk, if_neg (fun h => ((hd _).1 h).elim (fun h => h1 (by omega)) hk), ih]
        by_cases h2 : n < k
        · rw [if_pos h2, if_pos (by omega)]; omega
        · rw [if_neg h2, if_neg (by omega)]; omega
theorem bdP_nn {s : Si} {t : St8} {p : Int × Int} (hp : prOk p) (hr : s.res ≤ t.w) : ∀ k, 0 ≤ bdP s t p k
  | 0 => by rw [bdP]; exact Int.mul_nonneg hp.1.1 (by omega)
  | k + 1 => by
    have := bdP_nn (k := k) hp hr
    rw [bdP]; split
    · exact this
    · have := Int.le_max_left 0 ((tkA s k).v * p.2 - p.1 * (tkA s k).w)
      omega
theorem plan_bd {pm : Nat → Bool} {s : Si} {p : Int × Int} (hp : prOk p) : ∀ (q : List Int) (t : St8), OnOk s t → s.res ≤ t.w → acP pm s t q → p.2 * vaI s q ≤ bdP s t p s.tk.length
  | [], t, _, hr, _ => by
    have := bdP_nn (t := t) hp hr s.tk.length
    show p.2 * 0 ≤ _
    omega
  | n :: q, t, hO, hr, ⟨h1, h2, h3⟩ => by
    obtain ⟨⟨e, he, hs, h4⟩, hO', hl⟩ := spS_ok hO h1
    obtain ⟨⟨_, hre⟩, _, _, _, _, hx, hmem⟩ := nx_facts hO h1
    rw [e] at hre hmem
    have hw := reB_w hO'.b hre
    have hT := trT_bd (p := (tkA s n).p) hO
    have hee := hO.ok.e
    have wle : (nxS s t n).w ≤ t.w - (tkA s n).w := by
      have m1 := Int.mul_nonneg hT.1 (show 0 ≤ s.swim by omega)
      have m2 := Int.mul_nonneg (show 0 ≤ max (t.t + trT s t (tkA s n).p) (tkA s n).lo - (t.t + trT s t (tkA s n).p) by omega) (show 0 ≤ s.idle by omega)
      show t.w - (trT s t (tkA s n).p * s.swim + (max (t.t + trT s t (tkA s n).p) (tkA s n).lo - (t.t + trT s t (tkA s n).p)) * s.idle + (tkA s n).w) ≤ _
      omega
    rw [e] at h3
    have ih := plan_bd hp q _ hO' hw h3
    obtain ⟨k, rfl⟩ := Int.eq_ofNat_of_zero_le h4.1
    have st := bdP_step (s := s) (p := p) (u := nxS s t k) (t := t) hx hmem s.tk.length
    rw [if_pos (by omega)] at st
    rw [vaI_cons, Int.mul_add]
    have m3 := Int.mul_le_mul_of_nonneg_left wle hp.1.1
    have m4 := Int.le_max_right 0 ((tkA s k).v * p.2 - p.1 * (tkA s k).w)
    have c1 : (tkA s k).v * p.2 = p.2 * (tkA s k).v := Int.mul_comm ..
    rw [Int.mul_sub] at m3
    rw [Int.mul_sub] at st
    omega
theorem plan_le {pm : Nat → Bool} {s : Si} {t : St8} {p : Int × Int} {q : List Int} (hp : prOk p) (hO : OnOk s t) (hr : s.res ≤ t.w) (h : acP pm s t q) : ¬ cmpF (bdF s t p) (vaI s q, 1) < 0 := by
  have h1 := plan_bd hp q t hO hr h
  have e := frac_eq (n := bdP s t p s.tk.length) hp.2.1
  have hd := (frac_den (n := bdP s t p s.tk.length) (M := p.2) ⟨hp.2.1, Int.le_refl _⟩).1
  have : vaI s q * (bdF s t p).2 ≤ (bdF s t p).1 := by
    refine Int.le_of_mul_le_mul_right (a := p.2) ?_ hp.2.1
    show vaI s q * (frac (bdP s t p s.tk.length) p.2).2 * p.2 ≤ (frac (bdP s t p s.tk.length) p.2).1 * p.2
    rw [e]
    have m := Int.mul_le_mul_of_nonneg_right h1 (Int.le_of_lt hd)
    have e2 : vaI s q * (frac (bdP s t p s.tk.length) p.2).2 * p.2 = p.2 * vaI s q * (frac (bdP s t p s.tk.length) p.2).2 := by grind
    rw [e2]; exact m
  rw [cmpF, cmpI]
  show ¬ (if (bdF s t p).1 * 1 < vaI s q * (bdF s t p).2 then (-1 : Int) else _) < 0
  rw [if_neg (by omega)]
  split <;> omega
theorem acP_pr {s : Si} : ∀ {q : List Int} {t : St8}, acP (fun _ => true) s t q ↔ (prE s t q).2 = 0
  | [], t => ⟨fun _ => rfl, fun _ => trivial⟩
  | n :: q, t => by
    have hst : ∀ i, stK s t (n :: q) (i + 1) = stK s (spS s t n) q i := fun i => by
      induction i with
      | zero => rfl
      | succ i ih => rw [stK, ih, stK]; rfl
    rw [acP, acP_pr, prE, prE, eachN_ok, eachN_ok]
    constructor
    · rintro ⟨h1, _, h3⟩ i hi
      match i with
      | 0 => exact h1
      | i + 1 => rw [sfK, hst]; exact h3 i (by rw [List.length_cons] at hi; omega)
    · intro h
      refine ⟨h 0 (by rw [List.length_cons]; omega), rfl, fun i hi => ?_⟩
      have := h (i + 1) (by rw [List.length_cons]; omega)
      rw [sfK, hst] at this; exact this
theorem best_is {pm : Nat → Bool} {s : Si} {t : St8} (hO : OnOk s t) : acP pm s t (bestPp pm s t).1 ∧ vaI s (bestPp pm s t).1 = (bestPp pm s t).2 ∧ (∀ q, acP pm s t q → vaI s q ≤ (bestPp pm s t).2) ∧ ∀ q, acP pm s t q → vaI s q = (bestPp pm s t).2 → bfL q (bestPp pm s t).1 = false := by
  have h := gp_spec (pm := pm) (s.tk.length + 1) t [] ([], 0) hO (by omega)
  change GpS pm s t [] ([], 0) (bestPp pm s t) _ at h
  generalize bestPp pm s t = R at *
  have ha := h.all
  rcases h.is with e | ⟨q, a, _, d, e, g⟩
  · subst e
    exact ⟨trivial, rfl, fun q hq => ha q hq trivial, fun q _ _ => by cases q <;> rfl⟩
  · simp only [List.nil_append] at d g
    subst d
    exact ⟨a, rfl, fun q hq => ha q hq trivial, fun q hq hv => g q hq trivial hv⟩
theorem dpB_tr {s : Si} {n : Int} {m : Int} (hO : SiOk s) (hm : 0 ≤ m) (h : dpB s n m.toNat = true) : ∀ i : Nat, i < s.tk.length → dpB s m i = true → dpB s n i = true := fun i => by
  induction i using Nat.strongRecOn with
  | ind i ih =>
    intro hi hb
    rw [dpB_eq hO hi, List.any_eq_true] at hb
    rw [dpB_eq hO hi, List.any_eq_true]
    obtain ⟨x, hx, h1⟩ := hb
    refine ⟨x, hx, ?_⟩
    obtain ⟨s1, s2⟩ := Srt.of (hO.t i hi).a
    obtain ⟨j, hj, e⟩ := List.getElem_of_mem hx
    have h2 := s2 j hj
    rw [List.getD_eq_getElem?_getD, List.getElem?_eq_getElem hj, Option.getD_some, e] at h2
    rw [Bool.or_eq_true] at h1 ⊢
    right
    rcases h1 with h1 | h1
    · have := of_decide_eq_true h1
      subst this; exact h
    · exact ih x.toNat (by omega) (by omega) h1
end Go.Pw
set_option linter.unusedSimpArgs false
set_option linter.unusedVariables false
set_option maxHeartbeats 2000000
namespace Go.Pw
set_option maxRecDepth 2000
open Go Go.Proofs A1 A2 A3 A4
abbrev upS (s : Si) (r : Int) : Si := ⟨s.tk, s.tr, s.ho, s.ti, s.idle, s.swim, r, s.fin⟩
abbrev upT (t : St8) (e : Int) : St8 := ⟨t.p, t.t, t.w + e, t.o, t.d⟩
theorem up_nxS {s : Si} {t : St8} {r e n : Int} : nxS (upS s r) (upT t e) n = upT (nxS s t n) e := by
  show St8.mk _ _ _ _ _ = St8.mk _ _ _ _ _
  congr 1
  have key : ∀ a b X : Int, a + b - X = a - X + b := fun a b X => by omega
  exact key _ _ _
theorem up_re {s : Si} {t : St8} {r e : Int} (hr : r ≤ s.res) (he : 0 ≤ e) (h : reB s t = true) : reB (upS s r) (upT t e) = true := by
  rw [reB, decide_eq_true_eq] at h ⊢
  refine ⟨?_, h.2⟩
  have h1 := h.1
  show r ≤ t.w + e - hmT s t * s.swim
  omega
theorem up_step {s : Si} {t : St8} {r e n : Int} (hr : r ≤ s.res) (he : 0 ≤ e) (h : spE s t n = 0) : spE (upS s r) (upT t e) n = 0 ∧ spS (upS s r) (upT t e) n = upT (spS s t n) e := by
  rw [spE] at h
  split at h
  · rename_i hw
    split at h
    · rename_i hF
      have hw' : wi n 0 (((upS s r).tk.length : Int) - 1) = true := hw
      have hF' : spF (upS s r) (upT t e) n = 0 := hF
      rw [spE, spS, spS, if_pos hw', if_pos hw', if_pos hw, if_pos hF', if_pos hF', if_pos hF]
      refine ⟨?_, up_nxS⟩
      rw [nxE, nxF, fst3] at h ⊢
      obtain ⟨h1, h2, h3⟩ := h
      refine ⟨h1, h2, ?_⟩
      rw [unb_ok (by decide)] at h3 ⊢
      have e1 : nxT (upS s r) (upT t e) (tkA (upS s r) n) (trT (upS s r) (upT t e) (tkA (upS s r) n).p) n = upT (nxS s t n) e := up_nxS
      rw [e1]
      exact up_re hr he h3
    · rename_i hF; exact absurd h hF
  · cases h
theorem acP_up {pm : Nat → Bool} {s : Si} {r e : Int} (hr : r ≤ s.res) (he : 0 ≤ e) : ∀ {q : List Int} {t : St8}, acP pm s t q → acP pm (upS s r) (upT t e) q
  | [], _, _ => trivial
  | n :: q, t, ⟨h1, h2, h3⟩ => by
    obtain ⟨e1, e2⟩ := up_step (r := r) (e := e) hr he h1
    refine ⟨e1, h2, ?_⟩
    rw [e2]
    exact acP_up hr he h3
theorem up_va {s : Si} {r : Int} {q : List Int} : vaI (upS s r) q = vaI s q := by
  have : ∀ k, vaP (upS s r) q k = vaP s q k := fun k => by
    induction k with
    | zero => rfl
    | succ k ih => rw [vaP, vaP, ih]
  exact this _
theorem up_si {s : Si} {r : Int} (h : (siE s).2 = 0) (hr : isN r) : (siE (upS s r)).2 = 0 := by
  have hO := SiOk.of h
  have hE : enE (upS s r) = 0 := (unl0 (by decide)).2 ⟨⟨hO.e.1.1, hr⟩, hO.e.2⟩
  rw [siE] at h ⊢
  by_cases h1 : (tsE s.tk).2 = 0
  · rw [if_pos h1] at h
    rw [if_pos (show (tsE (upS s r).tk).2 = 0 from h1)]
    by_cases h2 : hoE s = 0
    · rw [if_pos h2] at h
      rw [if_pos (show hoE (upS s r) = 0 from h2)]
      by_cases h3 : (eachN (hmN s) 0 s.ho.length).2 = 0
      · rw [if_pos h3] at h
        rw [if_pos (show (eachN (hmN (upS s r)) 0 (upS s r).ho.length).2 = 0 from h3)]
        by_cases h4 : (eachN (plN s) 0 s.tk.length).2 = 0
        · rw [if_pos h4] at h
          rw [if_pos (show (eachN (plN (upS s r)) 0 (upS s r).tk.length).2 = 0 from h4)]
          by_cases h5 : (s.ti.length : Int) > 6
          · rw [if_pos h5] at h; cases h
          · rw [if_neg h5] at h
            rw [if_neg (show ¬ ((upS s r).ti.length : Int) > 6 from h5)]
            by_cases h6 : (eachN (tiN s) 0 s.ti.length).2 = 0
            · rw [if_pos (show (eachN (tiN (upS s r)) 0 (upS s r).ti.length).2 = 0 from h6)]
              exact hE
            · rw [if_neg h6] at h; exact absurd h h6
        · rw [if_neg h4] at h; exact absurd h h4
      · rw [if_neg h3] at h; exact absurd h h3
    · rw [if_neg h2] at h; exact absurd h h2
  · rw [if_neg h1] at h; exact absurd h h1
theorem up_on {s : Si} {t : St8} {r e : Int} (h : onE s t = 0) (hr : isN r) (he : 0 ≤ t.w + e ∧ t.w + e ≤ 100000000) : onE (upS s r) (upT t e) = 0 := by
  rw [onE, fst2] at h ⊢
  have h0 := up_si h.1 hr
  refine ⟨h0, ?_⟩
  have h2 := h.2
  rw [stE] at h2 ⊢
  split at h2
  · rename_i hF
    rw [stF, fst3] at hF
    have hF' : stF (upS s r) (upT t e) = 0 := by
      rw [stF, fst3]
      refine ⟨h0, hF.2.1, ?_⟩
      have h3 := (unl0 (show (2 : Int) ≠ 0 by decide)).1 hF.2.2
      exact (unl0 (by decide)).2 ⟨⟨h3.1.1, he⟩, h3.2⟩
    rw [if_pos hF']
    exact h2
  · rename_i hF; exact absurd h2 hF
theorem best_up {s : Si} {t : St8} {r e : Int} (h : onE s t = 0) (hr : isN r) (hr2 : r ≤ s.res) (he : 0 ≤ e) (hw : t.w + e ≤ 100000000) :
    onE (upS s r) (upT t e) = 0 ∧ (bestP s t).2 ≤ (bestP (upS s r) (upT t e)).2 := by
  have hO := OnOk.of h
  have h1 := up_on h hr (e := e) ⟨by have := hO.en; omega, hw⟩
  have hO1 := OnOk.of h1
  have hB : ∀ {s : Si} {t : St8}, bestPp (fun _ => true) s t = bestP s t := fun {s t} => by
    rw [← bestPp_nil]; exact gpF_ext (fun k _ => by simp [pmL]) _ _ _ _
  obtain ⟨b1, b2, _, _⟩ := best_is (pm := fun _ => true) hO
  obtain ⟨_, _, c3, _⟩ := best_is (pm := fun _ => true) hO1
  rw [hB] at b1 b2 c3
  have := c3 _ (acP_up hr2 he b1)
  rw [up_va, b2] at this
  exact ⟨h1, this⟩
theorem srt_perm {l : List Int} {k : Nat} (hn : l.Nodup) (hb : ∀ n ∈ l, 0 ≤ n ∧ n < k) : (srtL l k).Perm l := by
  have hd : (srtL l k).Nodup := (fltL_asc (p := fun n => decide ((n : Int) ∈ l)) (n := k)).imp fun h => Int.ne_of_lt h
  refine (List.perm_ext_iff_of_nodup hd hn).2 fun a => ?_
  constructor
  · intro h
    simp only [srtL, fltL, List.mem_map, List.mem_filter, List.mem_range, decide_eq_true_eq] at h
    obtain ⟨i, ⟨_, hi⟩, rfl⟩ := h
    exact hi
  · intro h
    have := hb a h
    simp only [srtL, fltL, List.mem_map, List.mem_filter, List.mem_range, decide_eq_true_eq]
    exact ⟨a.toNat, ⟨by omega, by rw [Int.toNat_of_nonneg this.1]; exact h⟩, Int.toNat_of_nonneg this.1⟩
end Go.Pw
set_option linter.unusedSimpArgs false
set_option linter.unusedVariables false
set_option maxHeartbeats 4000000
namespace Go.Pw
set_option maxRecDepth 2000
open Go Go.Proofs A1 A2 A3 A4
theorem cmpI_lt0 {a b : Int} : cmpI a b < 0 ↔ a < b := by rw [cmpI]; split <;> (try split) <;> omega
structure DpF (s : Si) (m : Int) (p : List Int) (D : List Int) : Prop where
  lo : ∀ k, k < D.length → m < D.getD k 0 ∧ D.getD k 0 < s.tk.length
  no : ∀ k, k < D.length → D.getD k 0 ∉ p
  e : ∀ k, k < D.length → deE s (D.getD k 0) = 0
  tr : ∀ k, k < D.length → ∀ x ∈ depL s (D.getD k 0) s.tk.length, x ∈ D
  me : m ∉ p
theorem dep_is {s : Si} {m : Int} {k : Nat} (hk : k < (depL s m s.tk.length).length) : ∃ i : Nat, (depL s m s.tk.length).getD k 0 = i ∧ i < s.tk.length ∧ dpB s m i = true := by
  have h : (depL s m s.tk.length).getD k 0 ∈ depL s m s.tk.length := getD_mem _ hk
  obtain ⟨i, _, e⟩ := List.mem_map.1 h
  rw [← e] at h ⊢
  exact ⟨i, rfl, fltL_mem.1 h⟩
theorem DpF.of {s : Si} {t : St8} {m : Int} (hO : OnOk s t) (h0 : (siE s).2 = 0) (hm : 0 ≤ m ∧ m < s.tk.length) : DpF s m (bestPp (pmD s m) s t).1 (depL s m s.tk.length) := by
  have hb := (best_is (pm := pmD s m) hO).1
  have hp : ∀ n ∈ (bestPp (pmD s m) s t).1, (0 ≤ n ∧ n < s.tk.length) ∧ n ≠ m ∧ dpB s m n.toNat = false := fun n hn => by
    obtain ⟨h1, h2⟩ := acP_nn hO hb n hn
    rw [pmD, Bool.and_eq_true, Bool.not_eq_true', Bool.not_eq_true', decide_eq_false_iff_not] at h2
    exact ⟨h1, by omega, h2.2⟩
  refine ⟨fun k hk => ?_, fun k hk hn => ?_, fun k hk => ?_, fun k hk x hx => ?_, fun h => (hp m h).2.1 rfl⟩
  · obtain ⟨i, e, h1, h2⟩ := dep_is hk
    rw [e]
    refine ⟨?_, by omega⟩
    rcases Int.lt_or_le m i with h | h
    · exact h
    · rw [dpB_lo hO.ok i h1 h] at h2; cases h2
  · obtain ⟨i, e, h1, h2⟩ := dep_is hk
    rw [e] at hn
    have := (hp _ hn).2.2
    rw [Int.toNat_natCast, h2] at this; cases this
  · obtain ⟨i, e, h1, h2⟩ := dep_is hk
    rw [e, deE, h0]
    have : isTk s i = true := by
      simp only [isTk, wi, decide_eq_true_eq]; omega
    rw [this]; rfl
  · obtain ⟨i, e, h1, h2⟩ := dep_is hk
    rw [e] at hx
    obtain ⟨j, _, ej⟩ := List.mem_map.1 hx
    subst ej
    obtain ⟨h3, h4⟩ := fltL_mem.1 hx
    exact fltL_mem.2 ⟨h3, dpB_tr (m := i) hO.ok (by omega) (by rw [Int.toNat_natCast]; exact h2) j h3 h4⟩
end Go.Pw
set_option linter.unusedVariables false
namespace Go.Pw
open Go Go.RowKit
theorem pfd_below {P : Program} {f : FuncId} {args : List V} {v : V} (hent : Ent1 P f)
    (h : ∀ (Γ : Cx) (w : World) (us : Array Value), StoreOk Γ w [] → RepL Γ w args us → Calls P f us w fun e w' => ∃ u, e = .returned u ∧ Below w.heap.size w w' ∧ RepV ⟨fun k => Γ.I k ∨ (w.heap.size ≤ k ∧ k < w'.heap.size), Γ.ρ, Γ.κ⟩ w' v u) : PFD P f args v := by
  refine ⟨hent, Nat.le_refl _, fun Γ w us hst hno hr => (h Γ w us hst hr).mono fun e w' ⟨u, he, hB, hv⟩ => ⟨u, _, he, hv, storeOk_nil (fun k hk => ?_) (hst.lay.mono (fun _ h => .inl h) fun k hI => hB.block k (hst.im k hI)), ⟨fun k h => .inl h, fun _ _ h => h, fun _ _ _ => rfl⟩, fun _ _ => ⟨rfl, rfl⟩,
    ⟨hB.os, hB.tape, hB.output, hB.size, fun k h => .inl h, fun k h => ?_, fun _ _ => rfl, fun _ _ => rfl, fun k hk _ => hB.block k hk, fun k h => absurd h not_live_nil⟩⟩⟩
  · rcases hk with hk | hk
    · exact Nat.lt_of_lt_of_le (hst.im k hk) hB.size
    · exact hk.2
  · rcases h with h | h
    · exact .inl h
    · exact .inr (.inl h.1)
theorem RepL.one {Γ : Cx} {w : World} {a : V} {us : Array Value} (h : RepL Γ w [a] us) : ∃ u, us = #[u] ∧ RepV Γ w a u := by
  obtain ⟨us⟩ := us
  have h1 := h.1
  match us, h1 with
  | [u], _ => exact ⟨u, rfl, h.2 0 _ _ rfl rfl⟩
theorem RepL.two {Γ : Cx} {w : World} {a b : V} {us : Array Value} (h : RepL Γ w [a, b] us) : ∃ u v, us = #[u, v] ∧ RepV Γ w a u ∧ RepV Γ w b v := by
  obtain ⟨us⟩ := us
  have h1 := h.1
  match us, h1 with
  | [u, v], _ => exact ⟨u, v, rfl, h.2 0 _ _ rfl rfl, h.2 1 _ _ rfl rfl⟩
theorem LayOk.cell {I : Nat → Prop} {w : World} (h : LayOk I w) : ∃ W0, LaidW W0 ∧ (∀ a v, W0.cell? a = some v → w.cell? a = some v) ∧ ∀ k, k < W0.heap.size → w.heap[k]? = W0.heap[k]? := by
  obtain ⟨W0, h1, h2⟩ := h
  refine ⟨W0, h1, fun a v hv => ?_, fun k hk => (h2 k hk).2⟩
  have hb := World.block_lt_of_cell? _ _ hv
  have e := (h2 _ hb).2
  rw [← hv]
  simp only [World.cell?, e]
end Go.Pw
set_option linter.unusedSimpArgs false
set_option linter.unusedVariables false
set_option maxHeartbeats 2000000
set_option maxRecDepth 100000
namespace Go.Pw
open Go Go.RowKit Go.Sort Go.Lib Go.Shelf
open Go.Proofs
def sh_lays156_ren : Go.Shelf.Ren := ⟨fun | 156 => 93 | 165 => 182 | 166 => 183 | 169 => 184 | 240 => 245 | 241 => 246 | 276 => 275 | 277 => 276 | n => n, fun | 31 => 158 | 9 => 9 | 3 => 3 | 4 => 4 | 0 => 0 | 20 => 20 | 72 => 255 | 76 => 259 | 70 => 252 | 37 => 253 | 75 => 258 | 127 => 305 | 164 => 328 | 5 => 5 | 80 => 261 | n => n, fun | n => n⟩
theorem sh_lays156 : Go.Proofs.Lays.n156 Tryz.prog sh_lays156_ren := {
  mixed := by kernel_rfl
  f156 := Tryz.func93.trans (congrArg some (by kernel_rfl))
  f165 := Tryz.func182.trans (congrArg some (by kernel_rfl))
  f166 := Tryz.func183.trans (congrArg some (by kernel_rfl))
  f169 := Tryz.func184.trans (congrArg some (by kernel_rfl))
  f240 := Tryz.func245.trans (congrArg some (by kernel_rfl))
  f241 := Tryz.func246.trans (congrArg some (by kernel_rfl))
  f276 := Tryz.func275.trans (congrArg some (by kernel_rfl))
  f277 := Tryz.func276.trans (congrArg some (by kernel_rfl))
  t0 := Tryz.underlying0
  a0 := Tryz.isAgg0
  z0 := Tryz.sizeOf0
  v0 := Tryz.zeroValue0
  t3 := Tryz.underlying3
  a3 := Tryz.isAgg3
  z3 := Tryz.sizeOf3
  v3 := Tryz.zeroValue3
  t4 := Tryz.underlying4
  a4 := Tryz.isAgg4
  z4 := Tryz.sizeOf4
  v4 := Tryz.zeroValue4
  t9 := Tryz.underlying9
  a9 := Tryz.isAgg9
  z9 := Tryz.sizeOf9
  v9 := Tryz.zeroValue9
  t20 := Tryz.underlying20
  a20 := Tryz.isAgg20
  z20 := Tryz.sizeOf20
  v20 := Tryz.zeroValue20
  t31 := Tryz.underlying158
  a31 := Tryz.isAgg158
  z31 := Tryz.sizeOf158
  v31 := Tryz.zeroValue158
  t37 := Tryz.underlying253
  a37 := Tryz.isAgg253
  z37 := Tryz.sizeOf253
  v37 := Tryz.zeroValue253
  t70 := Tryz.underlying252
  a70 := Tryz.isAgg252
  z70 := Tryz.sizeOf252
  v70 := Tryz.zeroValue252
  t72 := Tryz.underlying255
  a72 := Tryz.isAgg255
  z72 := Tryz.sizeOf255
  v72 := Tryz.zeroValue255
  t75 := Tryz.underlying258
  a75 := Tryz.isAgg258
  z75 := Tryz.sizeOf258
  v75 := Tryz.zeroValue258
  t76 := Tryz.underlying259
  a76 := Tryz.isAgg259
  z76 := Tryz.sizeOf259
  v76 := Tryz.zeroValue259
  t127 := Tryz.underlying305
  a127 := Tryz.isAgg305
  z127 := Tryz.sizeOf305
  v127 := Tryz.zeroValue305
  t164 := Tryz.underlying328
  a164 := Tryz.isAgg328
  z164 := Tryz.sizeOf328
  v164 := Tryz.zeroValue328 }
theorem sh_Builder_Extra_156 : Builder.Extra Tryz.prog sh_lays156_ren := {
  sizeBuilder := by kernel_rfl
  liesBuilder := by kernel_rfl
  t5 := Tryz.underlying5
  a5 := Tryz.isAgg5
  z5 := Tryz.sizeOf5
  v5 := Tryz.zeroValue5
  infoByte := by kernel_rfl
  cellsByte := by kernel_rfl
  sizeByte := by kernel_rfl
  neB5 := by decide }
theorem sh_strings_Join_none (a : Option Addr) (c : Nat) (sep : ByteArray) (w : World) :
    Calls Tryz.prog 93 #[.slice a 0 c, .string sep] w fun e w' => e = .returned (.string ⟨#[]⟩) ∧ w' = w := Any.strings_Join_none sh_lays156 sh_Builder_Extra_156 a c sep w
theorem sh_strings_Join (bk o c : Nat) (xs : List ByteArray) (sep : ByteArray) (w : World) (hcells : ∀ (j : Nat) x, xs[j]? = some x → w.cell? ⟨bk, o + j, none⟩ = some (.string x)) (hbk : bk < w.heap.size) (hN : xs.length ≤ 140737488355328) (hcap : xs.length ≤ c) (hlen : (Lib.join (xs.map (·.data.toList)) sep.data.toList).length ≤ 140737488355328) :
    Calls Tryz.prog 93 #[.slice (some ⟨bk, o, none⟩) xs.length c, .string sep] w fun e w' => e = .returned (.string ⟨(Lib.join (xs.map (·.data.toList)) sep.data.toList).toArray⟩) ∧ Below w.heap.size w w' := Any.strings_Join sh_lays156 sh_Builder_Extra_156 bk o c xs sep w hcells hbk hN hcap hlen
def sh_laysM171_ren : Go.Shelf.Ren := ⟨fun | 171 => 181 | 243 => 244 | 246 => 274 | 283 => 296 | 284 => 297 | 285 => 298 | 286 => 299 | 129 => 307 | 317 => 306 | 318 => 308 | 319 => 309 | 320 => 310 | 337 => 314 | 338 => 315 | n => n, fun | 3 => 3 | 9 => 9 | 2 => 2 | 4 => 4 | 171 => 342 | 0 => 0 | 53 => 298 | 37 => 253 | 5 => 5 | 173 => 345 | 212 => 361 | 51 => 357 | 20 => 20 | 213 => 362 | 46 => 316 | 232 => 370 | 233 => 371 | n => n, fun | 17 => 5 | 18 => 6 | 19 => 7 | n => n⟩
theorem sh_laysM171 : Go.Proofs.LaysM.n171 Tryz.prog sh_laysM171_ren := {
  mixed := by kernel_rfl
  f129 := Tryz.func307.trans (congrArg some (by kernel_rfl))
  f171 := Tryz.func181.trans (congrArg some (by kernel_rfl))
  f243 := Tryz.func244.trans (congrArg some (by kernel_rfl))
  f246 := Tryz.func274.trans (congrArg some (by kernel_rfl))
  f283 := Tryz.func296.trans (congrArg some (by kernel_rfl))
  f284 := Tryz.func297.trans (congrArg some (by kernel_rfl))
  f285 := Tryz.func298.trans (congrArg some (by kernel_rfl))
  f286 := Tryz.func299.trans (congrArg some (by kernel_rfl))
  f317 := Tryz.func306.trans (congrArg some (by kernel_rfl))
  f318 := Tryz.func308.trans (congrArg some (by kernel_rfl))
  f319 := Tryz.func309.trans (congrArg some (by kernel_rfl))
  f320 := Tryz.func310.trans (congrArg some (by kernel_rfl))
  f337 := Tryz.func314.trans (congrArg some (by kernel_rfl))
  f338 := Tryz.func315.trans (congrArg some (by kernel_rfl))
  t0 := Tryz.underlying0
  a0 := Tryz.isAgg0
  z0 := Tryz.sizeOf0
  v0 := Tryz.zeroValue0
  t2 := Tryz.underlying2
  a2 := Tryz.isAgg2
  z2 := Tryz.sizeOf2
  v2 := Tryz.zeroValue2
  t3 := Tryz.underlying3
  a3 := Tryz.isAgg3
  z3 := Tryz.sizeOf3
  v3 := Tryz.zeroValue3
  t4 := Tryz.underlying4
  a4 := Tryz.isAgg4
  z4 := Tryz.sizeOf4
  v4 := Tryz.zeroValue4
  t5 := Tryz.underlying5
  a5 := Tryz.isAgg5
  z5 := Tryz.sizeOf5
  v5 := Tryz.zeroValue5
  t9 := Tryz.underlying9
  a9 := Tryz.isAgg9
  z9 := Tryz.sizeOf9
  v9 := Tryz.zeroValue9
  t20 := Tryz.underlying20
  a20 := Tryz.isAgg20
  z20 := Tryz.sizeOf20
  v20 := Tryz.zeroValue20
  t37 := Tryz.underlying253
  a37 := Tryz.isAgg253
  z37 := Tryz.sizeOf253
  v37 := Tryz.zeroValue253
  t46 := Tryz.underlying316
  a46 := Tryz.isAgg316
  z46 := Tryz.sizeOf316
  v46 := Tryz.zeroValue316
  t51 := Tryz.underlying357
  a51 := Tryz.isAgg357
  z51 := Tryz.sizeOf357
  v51 := Tryz.zeroValue357
  t53 := Tryz.underlying298
  a53 := Tryz.isAgg298
  z53 := Tryz.sizeOf298
  v53 := Tryz.zeroValue298
  t171 := Tryz.underlying342
  a171 := Tryz.isAgg342
  z171 := Tryz.sizeOf342
  v171 := Tryz.zeroValue342
  t173 := Tryz.underlying345
  a173 := Tryz.isAgg345
  z173 := Tryz.sizeOf345
  v173 := Tryz.zeroValue345
  t212 := Tryz.underlying361
  a212 := Tryz.isAgg361
  z212 := Tryz.sizeOf361
  v212 := Tryz.zeroValue361
  t213 := Tryz.underlying362
  a213 := Tryz.isAgg362
  z213 := Tryz.sizeOf362
  t232 := Tryz.underlying370
  a232 := Tryz.isAgg370
  z232 := Tryz.sizeOf370
  v232 := Tryz.zeroValue370
  t233 := Tryz.underlying371
  a233 := Tryz.isAgg371
  z233 := Tryz.sizeOf371
  v233 := Tryz.zeroValue371
  g17 := by kernel_rfl
  g18 := by kernel_rfl
  g19 := by kernel_rfl
  i0 := by kernel_rfl
  i2 := by kernel_rfl
  i3 := by kernel_rfl
  i4 := by kernel_rfl
  i5 := by kernel_rfl
  i9 := by kernel_rfl
  i20 := by kernel_rfl
  i37 := by kernel_rfl
  i46 := by kernel_rfl
  i51 := by kernel_rfl
  i53 := by kernel_rfl
  i171 := by kernel_rfl
  i173 := by kernel_rfl
  i212 := by kernel_rfl
  i232 := by kernel_rfl
  i233 := by kernel_rfl
  m17 := by kernel_rfl
  m18 := by kernel_rfl
  m19 := by kernel_rfl }
theorem sh_strconv_Itoa (n : Int) (h0 : -9223372036854775808 ≤ n) (h1 : n ≤ 9223372036854775807) (w : World) (h5 : ∃ t fr, w.heap[5]? = some (.cells (Lib.pow10Tab.map fun z => Value.int .u64 z).toArray t fr)) :
    Calls Tryz.prog 181 #[.int .i64 n] w fun e w' => e = .returned (.string ⟨(Lib.itoa n).toArray⟩) ∧ ∃ k os, w' = grow (w.drewN k) os := by
  obtain ⟨t, fr, h5⟩ := h5
  refine Any.strconv_Itoa sh_laysM171 n h0 h1 w ?_
  unfold Lib.TabIs World.var?
  rw [sh_laysM171.m17]
  show (match w.heap[5]? with | some (.cells cs _ _) => some cs | _ => none) = _
  rw [h5]
def sh_laysC172_ren : Go.Shelf.Ren := ⟨fun | 172 => 191 | 244 => 251 | 245 => 252 | 247 => 279 | 279 => 280 | 280 => 281 | 281 => 282 | 282 => 283 | 287 => 300 | 316 => 301 | 171 => 181 | 205 => 302 | 321 => 311 | 322 => 312 | 243 => 244 | 246 => 274 | 283 => 296 | 284 => 297 | 285 => 298 | 286 => 299 | 129 => 307 | 317 => 306 | 318 => 308 | 319 => 309 | 320 => 310 | 337 => 314 | 338 => 315 | n => n, fun | 9 => 9 | 3 => 3 | 75 => 258 | 76 => 259 | 4 => 4 | 5 => 5 | 167 => 333 | 37 => 253 | 0 => 0 | 85 => 334 | 2 => 2 | 168 => 336 | 53 => 298 | 175 => 347 | 46 => 316 | 210 => 351 | 127 => 305 | 145 => 367 | 143 => 365 | 21 => 21 | 171 => 342 | 173 => 345 | 212 => 361 | 51 => 357 | 20 => 20 | 213 => 362 | 232 => 370 | 233 => 371 | 80 => 261 | n => n, fun | 15 => 1 | 16 => 2 | 17 => 5 | 18 => 6 | 19 => 7 | n => n⟩
theorem sh_laysC172 : Go.Proofs.LaysC.n172 Tryz.prog sh_laysC172_ren := {
  mixed := by kernel_rfl
  f129 := Tryz.func307.trans (congrArg some (by kernel_rfl))
  f171 := Tryz.func181.trans (congrArg some (by kernel_rfl))
  f172 := Tryz.func191.trans (congrArg some (by kernel_rfl))
  f205 := Tryz.func302.trans (congrArg some (by kernel_rfl))
  f243 := Tryz.func244.trans (congrArg some (by kernel_rfl))
  f244 := Tryz.func251.trans (congrArg some (by kernel_rfl))
  f245 := Tryz.func252.trans (congrArg some (by kernel_rfl))
  f246 := Tryz.func274.trans (congrArg some (by kernel_rfl))
  f247 := Tryz.func279.trans (congrArg some (by kernel_rfl))
  f279 := Tryz.func280.trans (congrArg some (by kernel_rfl))
  f280 := Tryz.func281.trans (congrArg some (by kernel_rfl))
  f281 := Tryz.func282.trans (congrArg some (by kernel_rfl))
  f282 := Tryz.func283.trans (congrArg some (by kernel_rfl))
  f283 := Tryz.func296.trans (congrArg some (by kernel_rfl))
  f284 := Tryz.func297.trans (congrArg some (by kernel_rfl))
  f285 := Tryz.func298.trans (congrArg some (by kernel_rfl))
  f286 := Tryz.func299.trans (congrArg some (by kernel_rfl))
  f287 := Tryz.func300.trans (congrArg some (by kernel_rfl))
  f316 := Tryz.func301.trans (congrArg some (by kernel_rfl))
  f317 := Tryz.func306.trans (congrArg some (by kernel_rfl))
  f318 := Tryz.func308.trans (congrArg some (by kernel_rfl))
  f319 := Tryz.func309.trans (congrArg some (by kernel_rfl))
  f320 := Tryz.func310.trans (congrArg some (by kernel_rfl))
  f321 := Tryz.func311.trans (congrArg some (by kernel_rfl))
  f322 := Tryz.func312.trans (congrArg some (by kernel_rfl))
  f337 := Tryz.func314.trans (congrArg some (by kernel_rfl))
  f338 := Tryz.func315.trans (congrArg some (by kernel_rfl))
  t0 := Tryz.underlying0
  a0 := Tryz.isAgg0
  z0 := Tryz.sizeOf0
  v0 := Tryz.zeroValue0
  t2 := Tryz.underlying2
  a2 := Tryz.isAgg2
  z2 := Tryz.sizeOf2
  v2 := Tryz.zeroValue2
  t3 := Tryz.underlying3
  a3 := Tryz.isAgg3
  z3 := Tryz.sizeOf3
  v3 := Tryz.zeroValue3
  t4 := Tryz.underlying4
  a4 := Tryz.isAgg4
  z4 := Tryz.sizeOf4
  v4 := Tryz.zeroValue4
  t5 := Tryz.underlying5
  a5 := Tryz.isAgg5
  z5 := Tryz.sizeOf5
  v5 := Tryz.zeroValue5
  t9 := Tryz.underlying9
  a9 := Tryz.isAgg9
  z9 := Tryz.sizeOf9
  v9 := Tryz.zeroValue9
  t20 := Tryz.underlying20
  a20 := Tryz.isAgg20
  z20 := Tryz.sizeOf20
  v20 := Tryz.zeroValue20
  t21 := Tryz.underlying21
  a21 := Tryz.isAgg21
  z21 := Tryz.sizeOf21
  v21 := Tryz.zeroValue21
  t37 := Tryz.underlying253
  a37 := Tryz.isAgg253
  z37 := Tryz.sizeOf253
  v37 := Tryz.zeroValue253
  t46 := Tryz.underlying316
  a46 := Tryz.isAgg316
  z46 := Tryz.sizeOf316
  v46 := Tryz.zeroValue316
  t51 := Tryz.underlying357
  a51 := Tryz.isAgg357
  z51 := Tryz.sizeOf357
  v51 := Tryz.zeroValue357
  t53 := Tryz.underlying298
  a53 := Tryz.isAgg298
  z53 := Tryz.sizeOf298
  v53 := Tryz.zeroValue298
  t75 := Tryz.underlying258
  a75 := Tryz.isAgg258
  z75 := Tryz.sizeOf258
  v75 := Tryz.zeroValue258
  t76 := Tryz.underlying259
  a76 := Tryz.isAgg259
  z76 := Tryz.sizeOf259
  v76 := Tryz.zeroValue259
  t85 := Tryz.underlying334
  a85 := Tryz.isAgg334
  z85 := Tryz.sizeOf334
  v85 := Tryz.zeroValue334
  t127 := Tryz.underlying305
  a127 := Tryz.isAgg305
  z127 := Tryz.sizeOf305
  v127 := Tryz.zeroValue305
  t143 := Tryz.underlying365
  a143 := Tryz.isAgg365
  z143 := Tryz.sizeOf365
  v143 := Tryz.zeroValue365
  t145 := Tryz.underlying367
  a145 := Tryz.isAgg367
  z145 := Tryz.sizeOf367
  v145 := Tryz.zeroValue367
  t167 := Tryz.underlying333
  a167 := Tryz.isAgg333
  z167 := Tryz.sizeOf333
  v167 := Tryz.zeroValue333
  t168 := Tryz.underlying336
  a168 := Tryz.isAgg336
  z168 := Tryz.sizeOf336
  v168 := Tryz.zeroValue336
  t171 := Tryz.underlying342
  a171 := Tryz.isAgg342
  z171 := Tryz.sizeOf342
  v171 := Tryz.zeroValue342
  t173 := Tryz.underlying345
  a173 := Tryz.isAgg345
  z173 := Tryz.sizeOf345
  v173 := Tryz.zeroValue345
  t175 := Tryz.underlying347
  a175 := Tryz.isAgg347
  z175 := Tryz.sizeOf347
  v175 := Tryz.zeroValue347
  t210 := Tryz.underlying351
  a210 := Tryz.isAgg351
  z210 := Tryz.sizeOf351
  v210 := Tryz.zeroValue351
  t212 := Tryz.underlying361
  a212 := Tryz.isAgg361
  z212 := Tryz.sizeOf361
  v212 := Tryz.zeroValue361
  t213 := Tryz.underlying362
  a213 := Tryz.isAgg362
  z213 := Tryz.sizeOf362
  t232 := Tryz.underlying370
  a232 := Tryz.isAgg370
  z232 := Tryz.sizeOf370
  v232 := Tryz.zeroValue370
  t233 := Tryz.underlying371
  a233 := Tryz.isAgg371
  z233 := Tryz.sizeOf371
  v233 := Tryz.zeroValue371
  g15 := by kernel_rfl
  g16 := by kernel_rfl
  g17 := by kernel_rfl
  g18 := by kernel_rfl
  g19 := by kernel_rfl
  t80 := Tryz.underlying261
  a80 := Tryz.isAgg261
  z80 := Tryz.sizeOf261
  v80 := Tryz.zeroValue261
  i0 := by kernel_rfl
  i2 := by kernel_rfl
  i3 := by kernel_rfl
  i4 := by kernel_rfl
  i5 := by kernel_rfl
  i9 := by kernel_rfl
  i20 := by kernel_rfl
  i21 := by kernel_rfl
  i37 := by kernel_rfl
  i46 := by kernel_rfl
  i51 := by kernel_rfl
  i53 := by kernel_rfl
  i75 := by kernel_rfl
  i76 := by kernel_rfl
  i80 := by kernel_rfl
  i85 := by kernel_rfl
  i127 := by kernel_rfl
  i143 := by kernel_rfl
  i145 := by kernel_rfl
  i167 := by kernel_rfl
  i168 := by kernel_rfl
  i171 := by kernel_rfl
  i173 := by kernel_rfl
  i175 := by kernel_rfl
  i210 := by kernel_rfl
  i212 := by kernel_rfl
  i232 := by kernel_rfl
  i233 := by kernel_rfl
  m15 := by kernel_rfl
  m16 := by kernel_rfl
  m17 := by kernel_rfl
  m18 := by kernel_rfl
  m19 := by kernel_rfl
  c0 := by kernel_rfl
  c2 := by kernel_rfl
  c3 := by kernel_rfl
  c4 := by kernel_rfl
  c5 := by kernel_rfl
  c9 := by kernel_rfl
  c20 := by kernel_rfl
  c21 := by kernel_rfl
  c37 := by kernel_rfl
  c46 := by kernel_rfl
  c51 := by kernel_rfl
  c53 := by kernel_rfl
  c75 := by kernel_rfl
  c76 := by kernel_rfl
  c80 := by kernel_rfl
  c85 := by kernel_rfl
  c127 := by kernel_rfl
  c143 := by kernel_rfl
  c145 := by kernel_rfl
  c167 := by kernel_rfl
  c168 := by kernel_rfl
  c171 := by kernel_rfl
  c173 := by kernel_rfl
  c175 := by kernel_rfl
  c210 := by kernel_rfl
  c212 := by kernel_rfl
  c213 := by kernel_rfl
  c232 := by kernel_rfl
  c233 := by kernel_rfl }
theorem sh_strconv_Atoi_ok (s : ByteArray) (hmax : s.size ≤ 9223372036854775806) (v : Int) (h : Lib.atoiAll s.data.toList = .ok v) (w : World) :
    Calls Tryz.prog 191 #[.string s] w fun e w' => e = .returned (.tuple #[.int .i64 v, .nilIface]) ∧ (w' = w ∨ ∃ t, w' = Lib.bytesWorld w 5 t) := Any.strconv_Atoi_ok sh_laysC172 s hmax v h w
theorem sh_strconv_Atoi_syntax (s : ByteArray) (hlim : s.size ≤ 281474976710656) (h : Lib.atoiAll s.data.toList = Lib.NumEnd.syntax) (ev : Value) (w : World) (hv : w.cell? ⟨1, 0, none⟩ = some ev) (hev : ev = .nilIface ∨ ∃ te pe, ev = .iface te pe) :
    Calls Tryz.prog 191 #[.string s] w fun e w' => ∃ N, e = .returned (.tuple #[.int .i64 (0), .iface 336 (.pointer (some ⟨N, 0, none⟩))]) ∧ w.heap.size ≤ N ∧ w'.heap[N]? = some (.cells #[.string ⟨#[65, 116, 111, 105]⟩, .string s, ev] 351 (0, 0)) ∧ Below w.heap.size w w' := Any.strconv_Atoi_syntax sh_laysC172 s hlim h ev w hv hev
theorem sh_strconv_Atoi_range (s : ByteArray) (hlim : s.size ≤ 281474976710656) (h : Lib.atoiAll s.data.toList = .range) (ev : Value) (w : World) (hv : w.cell? ⟨2, 0, none⟩ = some ev) (hev : ev = .nilIface ∨ ∃ te pe, ev = .iface te pe) :
    Calls Tryz.prog 191 #[.string s] w fun e w' => ∃ N, e = .returned (.tuple #[.int .i64 (Lib.atoiSat s.data.toList), .iface 336 (.pointer (some ⟨N, 0, none⟩))]) ∧ w.heap.size ≤ N ∧ w'.heap[N]? = some (.cells #[.string ⟨#[65, 116, 111, 105]⟩, .string s, ev] 351 (0, 0)) ∧ Below w.heap.size w w' := Any.strconv_Atoi_range sh_laysC172 s hlim h ev w hv hev
def sh_lays219_ren : Go.Shelf.Ren := ⟨fun | 219 => 257 | 217 => 286 | 225 => 287 | 224 => 288 | 267 => 289 | 266 => 303 | 314 => 304 | n => n, fun | 9 => 9 | 3 => 3 | 4 => 4 | 5 => 5 | 46 => 316 | 146 => 358 | 51 => 357 | n => n, fun | 1 => 0 | n => n⟩
theorem sh_lays219 : Go.Proofs.Lays.n219 Tryz.prog sh_lays219_ren := {
  mixed := by kernel_rfl
  f217 := Tryz.func286.trans (congrArg some (by kernel_rfl))
  f219 := Tryz.func257.trans (congrArg some (by kernel_rfl))
  f224 := Tryz.func288.trans (congrArg some (by kernel_rfl))
  f225 := Tryz.func287.trans (congrArg some (by kernel_rfl))
  f266 := Tryz.func303.trans (congrArg some (by kernel_rfl))
  f267 := Tryz.func289.trans (congrArg some (by kernel_rfl))
  f314 := Tryz.func304.trans (congrArg some (by kernel_rfl))
  t3 := Tryz.underlying3
  a3 := Tryz.isAgg3
  z3 := Tryz.sizeOf3
  v3 := Tryz.zeroValue3
  t4 := Tryz.underlying4
  a4 := Tryz.isAgg4
  z4 := Tryz.sizeOf4
  v4 := Tryz.zeroValue4
  t5 := Tryz.underlying5
  a5 := Tryz.isAgg5
  z5 := Tryz.sizeOf5
  v5 := Tryz.zeroValue5
  t9 := Tryz.underlying9
  a9 := Tryz.isAgg9
  z9 := Tryz.sizeOf9
  v9 := Tryz.zeroValue9
  t46 := Tryz.underlying316
  a46 := Tryz.isAgg316
  z46 := Tryz.sizeOf316
  v46 := Tryz.zeroValue316
  t51 := Tryz.underlying357
  a51 := Tryz.isAgg357
  z51 := Tryz.sizeOf357
  v51 := Tryz.zeroValue357
  t146 := Tryz.underlying358
  a146 := Tryz.isAgg358
  z146 := Tryz.sizeOf358
  v146 := Tryz.zeroValue358
  g1 := by kernel_rfl }
theorem sh_stringslite_Index_one (s : ByteArray) (c : UInt8) (w : World) :
    Calls Tryz.prog 257 #[.string s, .string ⟨#[c]⟩] w fun e w' => e = .returned (.int .i64 (Lib.indexByte s.data.toList c)) ∧ w' = w := Any.stringslite_Index_one sh_lays219 s c w
def sh_lays143_ren : Go.Shelf.Ren := ⟨fun | 143 => 249 | 219 => 257 | 217 => 286 | 225 => 287 | 224 => 288 | 267 => 289 | 266 => 303 | 314 => 304 | n => n, fun | 9 => 9 | 3 => 3 | 4 => 4 | 5 => 5 | 46 => 316 | 146 => 358 | 51 => 357 | n => n, fun | 1 => 0 | n => n⟩
theorem sh_lays143 : Go.Proofs.Lays.n143 Tryz.prog sh_lays143_ren := {
  mixed := by kernel_rfl
  f143 := Tryz.func249.trans (congrArg some (by kernel_rfl))
  f217 := Tryz.func286.trans (congrArg some (by kernel_rfl))
  f219 := Tryz.func257.trans (congrArg some (by kernel_rfl))
  f224 := Tryz.func288.trans (congrArg some (by kernel_rfl))
  f225 := Tryz.func287.trans (congrArg some (by kernel_rfl))
  f266 := Tryz.func303.trans (congrArg some (by kernel_rfl))
  f267 := Tryz.func289.trans (congrArg some (by kernel_rfl))
  f314 := Tryz.func304.trans (congrArg some (by kernel_rfl))
  t3 := Tryz.underlying3
  a3 := Tryz.isAgg3
  z3 := Tryz.sizeOf3
  v3 := Tryz.zeroValue3
  t4 := Tryz.underlying4
  a4 := Tryz.isAgg4
  z4 := Tryz.sizeOf4
  v4 := Tryz.zeroValue4
  t5 := Tryz.underlying5
  a5 := Tryz.isAgg5
  z5 := Tryz.sizeOf5
  v5 := Tryz.zeroValue5
  t9 := Tryz.underlying9
  a9 := Tryz.isAgg9
  z9 := Tryz.sizeOf9
  v9 := Tryz.zeroValue9
  t46 := Tryz.underlying316
  a46 := Tryz.isAgg316
  z46 := Tryz.sizeOf316
  v46 := Tryz.zeroValue316
  t51 := Tryz.underlying357
  a51 := Tryz.isAgg357
  z51 := Tryz.sizeOf357
  v51 := Tryz.zeroValue357
  t146 := Tryz.underlying358
  a146 := Tryz.isAgg358
  z146 := Tryz.sizeOf358
  v146 := Tryz.zeroValue358
  g1 := by kernel_rfl }
theorem sh_strings_Index_one (s : ByteArray) (c : UInt8) (w : World) :
    Calls Tryz.prog 249 #[.string s, .string ⟨#[c]⟩] w fun e w' => e = .returned (.int .i64 (Lib.indexByte s.data.toList c)) ∧ w' = w := Any.strings_Index_one sh_lays143 s c w
end Go.Pw
set_option linter.unusedVariables false
set_option linter.unusedSimpArgs false
namespace Go.Pw
open Go Go.Lib
abbrev By := List UInt8
abbrev bs (l : By) : ByteArray := ⟨l.toArray⟩
theorem bs_eta (s : ByteArray) : bs s.data.toList = s := by cases s; simp [bs]
theorem bs_size (l : By) : (bs l).size = l.length := by simp [bs, ByteArray.size]
def cutG (c : UInt8) : By → By → List By
  | acc, [] => [acc]
  | acc, x :: l => if x = c then acc :: cutG c [] l else cutG c (acc ++ [x]) l
theorem cutG_hit {c : UInt8} : ∀ {p acc r : By}, c ∉ p → cutG c acc (p ++ c :: r) = (acc ++ p) :: cutG c [] r
  | [], acc, r, _ => by simp [cutG]
  | x :: p, acc, r, h => by
    rw [List.mem_cons, not_or] at h
    rw [List.cons_append, cutG, if_neg (fun e => h.1 e.symm), cutG_hit h.2]; simp
theorem cutG_miss {c : UInt8} : ∀ {p acc : By}, c ∉ p → cutG c acc p = [acc ++ p]
  | [], acc, _ => by simp [cutG]
  | x :: p, acc, h => by
    rw [List.mem_cons, not_or] at h
    rw [cutG, if_neg (fun e => h.1 e.symm), cutG_miss h.2]; simp
theorem ix_cases (c : UInt8) : ∀ (l : By), (indexByte l c = -1 ∧ c ∉ l) ∨ ∃ p r, l = p ++ c :: r ∧ c ∉ p ∧ indexByte l c = p.length
  | [] => .inl ⟨rfl, by simp⟩
  | b :: l => by
    by_cases h : b = c
    · subst h
      exact .inr ⟨[], l, rfl, by simp, by simp [indexByte]⟩
    · rcases ix_cases c l with ⟨h1, h2⟩ | ⟨p, r, h1, h2, h3⟩
      · exact .inl ⟨by simp [indexByte, h, h1], by simp only [List.mem_cons, not_or]; exact ⟨fun e => h e.symm, h2⟩⟩
      · refine .inr ⟨b :: p, r, by rw [h1]; rfl, by simp only [List.mem_cons, not_or]; exact ⟨fun e => h e.symm, h2⟩, ?_⟩
        have : ¬ ((p.length : Int) = -1) := by omega
        simp [indexByte, h, h3, this]
def jnG (c : UInt8) : List By → By
  | [] => []
  | [x] => x
  | x :: y :: r => x ++ c :: jnG c (y :: r)
theorem jn_cons {c : UInt8} {x : By} {r : List By} (h : r ≠ []) : jnG c (x :: r) = x ++ c :: jnG c r := by
  cases r with
  | nil => exact absurd rfl h
  | cons y r => rfl
theorem join_jn {c : UInt8} : ∀ (l : List By), join l [c] = jnG c l
  | [] => rfl
  | x :: r => by
    have key : ∀ (r : List By) (x : By), x ++ joinTail [c] r = jnG c (x :: r) := fun r => by
      induction r with
      | nil => intro x; simp [joinTail, jnG]
      | cons y r ih =>
        intro x
        rw [jn_cons (by simp), ← ih y]
        simp [joinTail]
    rw [join_cons, key]
theorem cut_jn {c : UInt8} : ∀ {l : List By}, l ≠ [] → (∀ x ∈ l, c ∉ x) → cutG c [] (jnG c l) = l
  | [], h, _ => absurd rfl h
  | [x], _, h => by rw [jnG, cutG_miss (h x (by simp))]; rfl
  | x :: y :: r, _, h => by
    rw [jn_cons (by simp), cutG_hit (h x (by simp)), cut_jn (by simp) (fun z hz => h z (List.mem_cons_of_mem _ hz))]; rfl
abbrev i64P (n : Int) : Prop := -9223372036854775808 ≤ n ∧ n ≤ 9223372036854775807
abbrev isDg (b : UInt8) : Prop := 48 ≤ b.toNat ∧ b.toNat ≤ 57
theorem dg_nat {d : Nat} (h : d < 10) : (UInt8.ofNat (48 + d)).toNat = 48 + d := UInt8.toNat_ofNat_of_lt (show 48 + d < 256 by omega)
theorem dec_big {u : Nat} (h : ¬ u < 10) : decDigits u = decDigits (u / 10) ++ [UInt8.ofNat (48 + u % 10)] := by rw [decDigits, dif_neg h]
theorem dec_ne (u : Nat) : decDigits u ≠ [] := by
  by_cases h : u < 10
  · rw [decDigits_one h]; simp
  · rw [dec_big h]; simp
theorem dec_dg (u : Nat) : ∀ b ∈ decDigits u, isDg b := by
  induction u using Nat.strongRecOn with
  | _ u ih =>
    intro b hb
    by_cases h : u < 10
    · rw [decDigits_one h, List.mem_singleton] at hb; subst hb
      have := dg_nat h; omega
    · rw [dec_big h, List.mem_append, List.mem_singleton] at hb
      rcases hb with h1 | h1
      · exact ih (u / 10) (by omega) b h1
      · subst h1
        have := dg_nat (d := u % 10) (by omega); omega
theorem dec_head {u : Nat} (h0 : 0 < u) : ∃ b r, decDigits u = b :: r ∧ b.toNat ≠ 48 := by
  induction u using Nat.strongRecOn with
  | _ u ih =>
    by_cases h : u < 10
    · rw [decDigits_one h]
      exact ⟨_, _, rfl, by rw [dg_nat h]; omega⟩
    · obtain ⟨b, r, h1, h2⟩ := ih (u / 10) (by omega) (by omega)
      rw [dec_big h, h1]
      exact ⟨b, _, rfl, h2⟩
def dgS (a : Nat) (b : UInt8) : Nat := 10 * a + (b.toNat - 48)
def dgV (acc : Nat) (l : List UInt8) : Nat := l.foldl dgS acc
theorem dgV_nil (acc : Nat) : dgV acc [] = acc := by rw [dgV, List.foldl_nil]
theorem dgV_cons (acc : Nat) (b : UInt8) (l : List UInt8) : dgV acc (b :: l) = dgV (10 * acc + (b.toNat - 48)) l := by rw [dgV, List.foldl_cons, dgS, dgV]
theorem dgV_app (b : UInt8) (l : List UInt8) : ∀ acc : Nat, dgV acc (l ++ [b]) = 10 * dgV acc l + (b.toNat - 48) := by
  induction l with
  | nil => intro acc; rw [List.nil_append, dgV_cons, dgV_nil, dgV_nil]
  | cons x l ih =>
    intro acc
    rw [List.cons_append, dgV_cons, dgV_cons]
    exact ih _
theorem dgV_dec (u : Nat) : dgV 0 (decDigits u) = u := by
  induction u using Nat.strongRecOn with
  | _ u ih =>
    by_cases h : u < 10
    · rw [decDigits_one h, dgV_cons, dgV_nil, dg_nat h]; omega
    · rw [dec_big h, dgV_app, ih (u / 10) (by omega), dg_nat (by omega)]; omega
theorem dgV_le (l : List UInt8) : ∀ acc : Nat, acc * 10 ^ l.length ≤ dgV acc l := by
  induction l with
  | nil => intro acc; rw [dgV_nil]; simp
  | cons b l ih =>
    intro acc
    have h := ih (10 * acc + (b.toNat - 48))
    rw [dgV_cons, List.length_cons, Nat.pow_succ]
    generalize 10 ^ l.length = P at *
    have e : acc * (P * 10) = 10 * acc * P := by
      rw [Nat.mul_comm P 10, ← Nat.mul_assoc, Nat.mul_comm acc 10]
    rw [e]
    exact Nat.le_trans (Nat.mul_le_mul_right _ (Nat.le_add_right _ _)) h
theorem dec_dgV : ∀ (n : Nat) (l : By), l.length = n → l ≠ [] → (∀ b ∈ l, isDg b) → (l.length = 1 ∨ ∃ b r, l = b :: r ∧ b.toNat ≠ 48) → decDigits (dgV 0 l) = l := by
  intro n
  induction n with
  | zero => intro l hl hne _ _; exact absurd (List.length_eq_zero_iff.1 hl) hne
  | succ n ih =>
    intro l hl hne hd hh
    obtain ⟨p, b, rfl⟩ : ∃ p b, l = p ++ [b] := ⟨l.dropLast, l.getLast hne, (List.dropLast_concat_getLast hne).symm⟩
    have hb := hd b (by simp)
    have hp : ∀ x ∈ p, isDg x := fun x hx => hd x (by simp [hx])
    rw [dgV_app]
    have hof : UInt8.ofNat (48 + (b.toNat - 48)) = b := by
      rw [show 48 + (b.toNat - 48) = b.toNat by omega]; exact UInt8.ofNat_toNat
    by_cases hpe : p = []
    · subst hpe
      rw [dgV_nil, Nat.mul_zero, Nat.zero_add, decDigits_one (by omega), hof]; rfl
    · have hpl : p.length = n := by simp at hl; omega
      obtain ⟨x, r, hx⟩ : ∃ x r, p = x :: r := by cases p with | nil => exact absurd rfl hpe | cons x r => exact ⟨x, r, rfl⟩
      have hx0 : x.toNat ≠ 48 := by
        rcases hh with h | ⟨y, s, h1, h2⟩
        · simp [hx] at h
        · rw [hx] at h1; simp at h1; rw [h1.1]; exact h2
      have hpos : 0 < dgV 0 p := by
        rw [hx, dgV_cons]
        have h1 := dgV_le r (10 * 0 + (x.toNat - 48))
        have h2 := hp x (by simp [hx])
        have h3 : 0 < 10 ^ r.length := Nat.pos_of_ne_zero (by simp)
        have h4 : 0 < (10 * 0 + (x.toNat - 48)) * 10 ^ r.length := Nat.mul_pos (by omega) h3
        omega
      rw [dec_big (by omega), show (10 * dgV 0 p + (b.toNat - 48)) / 10 = dgV 0 p by omega, show (10 * dgV 0 p + (b.toNat - 48)) % 10 = b.toNat - 48 by omega, hof,
        ih p hpl hpe hp (.inr ⟨x, r, hx, hx0⟩)]
theorem itoa_neg {n : Int} (h : n < 0) : itoa n = 45 :: decDigits n.natAbs := by rw [itoa, if_pos h]
theorem itoa_nn {n : Int} (h : 0 ≤ n) : itoa n = decDigits n.toNat := by rw [itoa, if_neg (by omega)]
theorem itoa_ne (n : Int) : itoa n ≠ [] := by
  rw [itoa]; split
  · simp
  · exact dec_ne _
theorem itoa_ch {n : Int} : ∀ b ∈ itoa n, b = 45 ∨ isDg b := fun b hb => by
  rw [itoa] at hb
  split at hb
  · rcases List.mem_cons.1 hb with h | h
    · exact .inl h
    · exact .inr (dec_dg _ b h)
  · exact .inr (dec_dg _ b hb)
theorem itoa_no {n : Int} {c : UInt8} (h : c ≠ 45 ∧ ¬ isDg c) : c ∉ itoa n := fun hc => by
  rcases itoa_ch c hc with h1 | h1
  · exact h.1 h1
  · exact h.2 h1
theorem parse_dg : ∀ (l : By) (acc : Nat), (∀ b ∈ l, isDg b) → dgV acc l < 18446744073709551616 → parseUint10 acc l = .ok (dgV acc l)
  | [], acc, _, _ => rfl
  | b :: l, acc, h, hlt => by
    have hb := h b (by simp)
    have hle := dgV_le l (10 * acc + (b.toNat - 48))
    have h1 : 1 ≤ 10 ^ l.length := Nat.one_le_pow _ _ (by decide)
    have h2 := Nat.mul_le_mul_left (10 * acc + (b.toNat - 48)) h1
    rw [dgV_cons] at hlt
    rw [parseUint10, if_pos hb, if_neg (by omega), if_neg (by omega), Nat.mul_comm acc 10, parse_dg l _ (fun x hx => h x (by simp [hx])) hlt, dgV_cons]
theorem atoi_itoa {n : Int} (h : i64P n) : atoiAll (itoa n) = .ok n := by
  by_cases hn : n < 0
  · have hp := parse_dg (decDigits n.natAbs) 0 (dec_dg _) (by rw [dgV_dec]; omega)
    rw [dgV_dec] at hp
    rw [itoa_neg hn, atoiAll]
    have e45 : (45 : UInt8).toNat = 45 := rfl
    simp only [e45, or_true, if_true, parseMag, if_neg (dec_ne _), hp, not_true, false_and, if_false, true_and]
    rw [if_neg (by omega)]
    congr 1; omega
  · obtain ⟨c, r, hc⟩ : ∃ c r, itoa n = c :: r := by
      cases hi : itoa n with
      | nil => exact absurd hi (itoa_ne n)
      | cons c r => exact ⟨c, r, rfl⟩
    have hdc : decDigits n.toNat = c :: r := by rw [← itoa_nn (by omega)]; exact hc
    have hcd := dec_dg n.toNat c (by rw [hdc]; simp)
    have hcd1 : 48 ≤ c.toNat := hcd.1
    have hcd2 : c.toNat ≤ 57 := hcd.2
    have hp := parse_dg (decDigits n.toNat) 0 (dec_dg _) (by rw [dgV_dec]; omega)
    rw [dgV_dec, hdc] at hp
    rw [hc, atoiAll]
    have n1 : ¬ (c.toNat = 43 ∨ c.toNat = 45) := by omega
    have n2 : ¬ c.toNat = 45 := by omega
    have n3 : ¬ c.toNat = 43 := by omega
    simp only [n2, n3, or_self, if_false, parseMag, if_neg (List.cons_ne_nil c r), hp, not_false_iff, true_and, false_and]
    rw [if_neg (by omega)]
    congr 1; omega
abbrev dgOk (r : By) (d : Int) (z : Prop) : Prop := r ≠ [] ∧ (r.length : Int) ≤ d ∧ (r.head? = some 48 → z) ∧ ∀ b ∈ r, isDg b
def numV (s : By) (d : Int) : Option Int :=
  if s.head? = some 45 then (if dgOk s.tail d False then some (-(dgV 0 s.tail : Int)) else none)
  else if dgOk s d (s.length = 1) then some (dgV 0 s : Int) else none
theorem numV_neg {r : By} {d : Int} : numV (45 :: r) d = if dgOk r d False then some (-(dgV 0 r : Int)) else none := by
  rw [numV, if_pos (by rfl)]; rfl
theorem pow18 {k : Nat} {d : Int} (hd : d ≤ 18) (hk : (k : Int) ≤ d) : (10 : Nat) ^ k ≤ 1000000000000000000 := by
  have : k ≤ 18 := by omega
  exact Nat.le_trans (Nat.pow_le_pow_right (by decide) this) (by decide)
theorem head_dec {u : Nat} : (decDigits u).head? = some 48 → u = 0 := fun h => by
  refine Decidable.byContradiction fun h0 => ?_
  obtain ⟨b, r, h1, h2⟩ := dec_head (u := u) (by omega)
  rw [h1] at h
  simp only [List.head?_cons, Option.some.injEq] at h
  rw [h] at h2; exact h2 rfl
theorem head_n45 {u : Nat} : (decDigits u).head? ≠ some 45 := fun h => by
  cases hd : decDigits u with
  | nil => exact dec_ne u hd
  | cons b r =>
    rw [hd] at h
    simp only [List.head?_cons, Option.some.injEq] at h
    have := dec_dg u b (by rw [hd]; simp)
    rw [h] at this; revert this; decide
theorem dec0 : decDigits 0 = [48] := by rw [decDigits_one (by decide)]; rfl
theorem numV_iff {s : By} {d n : Int} (hd : d ≤ 18) : numV s d = some n ↔ s = itoa n ∧ ((decDigits n.natAbs).length : Int) ≤ d := by
  constructor
  · intro h
    rw [numV] at h
    split at h
    · rename_i h45
      obtain ⟨r, rfl⟩ : ∃ r, s = 45 :: r := by
        cases s with
        | nil => simp at h45
        | cons b r => simp only [List.head?_cons, Option.some.injEq] at h45; exact ⟨r, by rw [h45]⟩
      split at h
      · rename_i hok
        simp only [List.tail_cons] at hok h
        obtain ⟨h1, h2, h3, h4⟩ := hok
        simp only [Option.some.injEq] at h
        have hdec : decDigits (dgV 0 r) = r := by
          refine dec_dgV _ r rfl h1 h4 (.inr ?_)
          cases r with
          | nil => exact absurd rfl h1
          | cons b r =>
            refine ⟨b, r, rfl, fun hb => h3 ?_⟩
            simp only [List.head?_cons, Option.some.injEq]
            exact UInt8.toNat_inj.1 (by rw [hb]; rfl)
        have hpos : 0 < dgV 0 r := by
          refine Nat.pos_of_ne_zero fun h0 => h3 ?_
          rw [h0, dec0] at hdec; rw [← hdec]; rfl
        have e : n.natAbs = dgV 0 r := by omega
        rw [itoa_neg (by omega), e, hdec]
        exact ⟨rfl, h2⟩
      · cases h
    · split at h
      · rename_i hok
        obtain ⟨h1, h2, h3, h4⟩ := hok
        simp only [Option.some.injEq] at h
        have hdec : decDigits (dgV 0 s) = s := by
          refine dec_dgV _ s rfl h1 h4 ?_
          by_cases hh : s.head? = some 48
          · exact .inl (h3 hh)
          · right
            cases s with
            | nil => exact absurd rfl h1
            | cons b r =>
              refine ⟨b, r, rfl, fun hb => hh ?_⟩
              simp only [List.head?_cons, Option.some.injEq]
              exact UInt8.toNat_inj.1 (by rw [hb]; rfl)
        have e : n.natAbs = dgV 0 s := by omega
        rw [itoa_nn (by omega), show n.toNat = dgV 0 s by omega, e, hdec]
        exact ⟨rfl, h2⟩
      · cases h
  · rintro ⟨rfl, h2⟩
    by_cases hn : n < 0
    · have h := numV_neg (r := decDigits n.natAbs) (d := d)
      rw [if_pos ⟨dec_ne _, h2, fun h => by have := head_dec h; omega, dec_dg _⟩, dgV_dec] at h
      rw [itoa_neg hn, h]
      congr 1; omega
    · have en : n.toNat = n.natAbs := by omega
      rw [itoa_nn (by omega), en, numV, if_neg head_n45, if_pos ⟨dec_ne _, h2, fun h => (congrArg (fun u => (decDigits u).length) (head_dec h)).trans (congrArg List.length dec0), dec_dg _⟩, dgV_dec, show ((n.natAbs : Nat) : Int) = n by omega]
theorem numV_i64 {s : By} {d n : Int} (hd : d ≤ 18) (h : numV s d = some n) : i64P n ∧ n.natAbs < 1000000000000000000 := by
  obtain ⟨_, h2⟩ := (numV_iff hd).1 h
  have h3 := lt_pow_nDigits n.natAbs
  rw [← decDigits_length] at h3
  have h4 := pow18 hd h2
  exact ⟨by constructor <;> omega, by omega⟩
theorem nat_iff {s : By} {d n : Int} (hd : d ≤ 18) : (atoiAll s = .ok n ∧ 0 ≤ n ∧ itoa n = s ∧ (s.length : Int) ≤ d) ↔ numV s d = some n ∧ 0 ≤ n := by
  constructor
  · rintro ⟨h1, h2, h3, h4⟩
    refine ⟨(numV_iff hd).2 ⟨h3.symm, ?_⟩, h2⟩
    rw [← h3, itoa_nn h2] at h4
    rw [show n.natAbs = n.toNat by omega]; exact h4
  · rintro ⟨h1, h2⟩
    have hi := (numV_i64 hd h1).1
    obtain ⟨h3, h4⟩ := (numV_iff hd).1 h1
    refine ⟨by rw [h3]; exact atoi_itoa hi, h2, h3.symm, ?_⟩
    rw [h3, itoa_nn h2, show n.toNat = n.natAbs by omega]; exact h4
end Go.Pw
set_option linter.unusedSimpArgs false
set_option linter.unusedVariables false
set_option maxRecDepth 20000
namespace Go.Pw
open Go Go.RowKit Go.Lib Go.Sort
open Go.Proofs
abbrev svD (l : By) : D := .v (.string (bs l))
abbrev sv (l : By) : V := .c (.d (svD l))
abbrev rS (l : By) : List D := [svD l]
abbrev sts (l : List By) : C := slv 1 rS [] l
abbrev atV (s : By) : V := match atoiAll s with
  | .ok v => .tup [vi .i64 v, .c (.d (.v .nilIface))]
  | Lib.NumEnd.syntax => .tup [vi .i64 0, .c .er]
  | .range => .tup [vi .i64 (atoiSat s), .c .er]
theorem VEq.str {a b : ByteArray} (h : a = b) : VEq (.c (.d (.v (.string a)))) (.c (.d (.v (.string b)))) := by subst h; exact .refl _
theorem CEq.str {a b : ByteArray} (h : a = b) : CEq (.d (.v (.string a))) (.d (.v (.string b))) := by subst h; exact .refl _
theorem RepV.vv {Γ : Cx} {w : World} {x u : Value} (h : RepV Γ w (.c (.d (.v x))) u) : u = x := by
  cases h with | c _ _ h => cases h; rfl
theorem RepV.dv {Γ : Cx} {w : World} {x : Value} (h : one x = true) : RepV Γ w (.c (.d (.v x))) x := .c _ _ (.v _ h)
theorem below_sh (w : World) (k : Nat) (os : Array Obj) : Below w.heap.size w (grow (w.drewN k) os) :=
  ⟨rfl, rfl, rfl, by show w.heap.size ≤ (w.heap ++ os).size; rw [Array.size_append]; omega, fun j hj => Array.getElem?_append_left hj⟩
theorem C181 {n : Int} : i64P n → PFD Tryz.prog 181 [vi .i64 n] (sv (itoa n)) := fun hn => by
  refine pfd_below Tryz.call181 fun Γ w us hst hr => ?_
  obtain ⟨u, rfl, hu⟩ := hr.one
  cases hu.vv
  obtain ⟨W0, ⟨⟨t, fr, ht⟩, _⟩, _, hb⟩ := hst.lay.cell
  refine (sh_strconv_Itoa n hn.1 hn.2 w ⟨t, fr, (hb 5 (Array.getElem?_eq_some_iff.1 ht).1).trans ht⟩).mono ?_
  rintro e w' ⟨rfl, k, os, rfl⟩
  exact ⟨_, rfl, below_sh w k os, RepV.dv rfl⟩
theorem C249 {l : By} {c : UInt8} : PFD Tryz.prog 249 [sv l, .c (.d (.v (.string ⟨#[c]⟩)))] (vi .i64 (indexByte l c)) := by
  refine pfd_below Tryz.call249 fun Γ w us hst hr => ?_
  obtain ⟨u, v, rfl, hu, hv⟩ := hr.two
  cases hu.vv; cases hv.vv
  refine (sh_strings_Index_one (bs l) c w).mono ?_
  rintro e w' ⟨rfl, rfl⟩
  exact ⟨_, rfl, Below.refl _ _, RepV.dv rfl⟩
theorem C257 {l : By} {c : UInt8} : PFD Tryz.prog 257 [sv l, .c (.d (.v (.string ⟨#[c]⟩)))] (vi .i64 (indexByte l c)) := by
  refine pfd_below Tryz.call257 fun Γ w us hst hr => ?_
  obtain ⟨u, v, rfl, hu, hv⟩ := hr.two
  cases hu.vv; cases hv.vv
  refine (sh_stringslite_Index_one (bs l) c w).mono ?_
  rintro e w' ⟨rfl, rfl⟩
  exact ⟨_, rfl, Below.refl _ _, RepV.dv rfl⟩
theorem RepV.pair {Γ : Cx} {w : World} {a b : V} {x y : Value} (h1 : RepV Γ w a x) (h2 : RepV Γ w b y) : RepV Γ w (.tup [a, b]) (.tuple #[x, y]) := by
  refine .tup _ _ rfl fun i v u hv hu => ?_
  match i, hv, hu with
  | 0, hv, hu => cases hv; cases hu; exact h1
  | 1, hv, hu => cases hv; cases hu; exact h2
  | i + 2, hv, hu => cases hv
theorem C191 {s : By} : s.length ≤ 1000000 → PFD Tryz.prog 191 [sv s] (atV s) := fun hs => by
  refine pfd_below Tryz.call191 fun Γ w us hst hr => ?_
  obtain ⟨u, rfl, hu⟩ := hr.one
  cases hu.vv
  obtain ⟨W0, ⟨_, ⟨e3, h3, k3⟩, ⟨e4, h4, k4⟩⟩, hc, _⟩ := hst.lay.cell
  have hsz := bs_size s
  unfold atV
  match ha : atoiAll s with
  | .ok v =>
    refine (sh_strconv_Atoi_ok (bs s) (by omega) v ha w).mono ?_
    rintro e w' ⟨rfl, h⟩
    refine ⟨_, rfl, ?_, RepV.pair (RepV.dv rfl) (RepV.dv rfl)⟩
    rcases h with rfl | ⟨t, rfl⟩
    · exact Below.refl _ _
    · exact bytesWorld_below w 5 t
  | Lib.NumEnd.syntax =>
    refine (sh_strconv_Atoi_syntax (bs s) (by omega) ha e3 w (hc _ _ h3) k3).mono ?_
    rintro e w' ⟨N, rfl, _, _, hB⟩
    exact ⟨_, rfl, hB, RepV.pair (RepV.dv rfl) (.c _ _ ⟨_, _, rfl⟩)⟩
  | .range =>
    refine (sh_strconv_Atoi_range (bs s) (by omega) ha e4 w (hc _ _ h4) k4).mono ?_
    rintro e w' ⟨N, rfl, _, _, hB⟩
    exact ⟨_, rfl, hB, RepV.pair (RepV.dv rfl) (.c _ _ ⟨_, _, rfl⟩)⟩
theorem RepV.strs {Γ : Cx} {w : World} {l : List By} {u : Value} (h : RepV Γ w (.c (sts l)) u) : (∃ A c, u = .slice A 0 c ∧ l = []) ∨ ∃ b o c, u = .slice (some ⟨b, o, none⟩) l.length c ∧ l.length ≤ c ∧ Γ.I b ∧ ∀ j x, l[j]? = some x → w.cell? ⟨b, o + j, none⟩ = some (.string (bs x)) := by
  cases h with | c _ _ h =>
  replace h : RepD Γ.I w (.sl 1 l.length fun i => rS (l.getD i [])) u := h
  generalize hn : l.length = n at h
  cases h with
  | slE _ _ A c => exact .inl ⟨A, c, rfl, List.length_eq_zero_iff.1 hn⟩
  | sl _ _ _ ad c U hnc hI hs hc hr =>
    have key : ∀ j x, l[j]? = some x → w.cell? (ad.add j) = some (.string (bs x)) := fun j x hx => by
      have hj : j < n := by rw [← hn]; exact (List.getElem?_eq_some_iff.1 hx).1
      have h1 := hc j 0 (svD (l.getD j [])) hj rfl
      have h2 := hr j 0 (svD (l.getD j [])) hj rfl
      have e : l.getD j [] = x := by rw [List.getD, hx]; rfl
      rw [e] at h2
      rw [Nat.mul_one, Nat.add_zero] at h1
      rw [h1]
      revert h2; generalize U j 0 = y; intro h2
      cases h2; rfl
    by_cases h0 : l = []
    · subst h0; cases hn; exact .inl ⟨_, _, rfl, rfl⟩
    · obtain ⟨b, o, sp⟩ := ad
      have hx : ∃ x, l[0]? = some x := by cases l with | nil => exact absurd rfl h0 | cons x r => exact ⟨x, rfl⟩
      obtain ⟨x, hx⟩ := hx
      have h1 := key 0 x hx
      have hsp : sp = none := by
        cases sp with
        | none => rfl
        | some q =>
          simp only [World.cell?, Addr.add] at h1
          split at h1
          · simp at h1
          · cases h1
      subst hsp
      exact .inr ⟨b, o, c, rfl, hnc, hI, fun j x hx => by
        have h2 := key j x hx
        have e : (Addr.mk b o none).add j = ⟨b, o + j, none⟩ := by
          unfold Addr.add
          split
          · rename_i h0; subst h0; rfl
          · rfl
        rw [e] at h2; exact h2⟩
theorem C93 {l : List By} {c : UInt8} : (l.length ≤ 1000000 ∧ (jnG c l).length ≤ 1000000000) → PFD Tryz.prog 93 [.c (sts l), .c (.d (.v (.string ⟨#[c]⟩)))] (sv (jnG c l)) := fun ⟨hl, hj⟩ => by
  refine pfd_below Tryz.call93 fun Γ w us hst hr => ?_
  obtain ⟨u, v, rfl, hu, hv⟩ := hr.two
  cases hv.vv
  rcases hu.strs with ⟨A, cc, rfl, rfl⟩ | ⟨b, o, cc, rfl, hcc, hI, hcell⟩
  · refine (sh_strings_Join_none A cc ⟨#[c]⟩ w).mono ?_
    rintro e w' ⟨rfl, rfl⟩
    exact ⟨_, rfl, Below.refl _ _, RepV.dv rfl⟩
  · have e1 : ((l.map bs).map (·.data.toList)) = l := by
      rw [List.map_map]
      exact (List.map_congr_left (fun x _ => by simp [bs])).trans (List.map_id l)
    have e2 : Lib.join ((l.map bs).map (·.data.toList)) (ByteArray.mk #[c]).data.toList = jnG c l := by rw [e1]; exact join_jn l
    have h := sh_strings_Join b o cc (l.map bs) ⟨#[c]⟩ w (fun j x hx => by
      rw [List.getElem?_map, Option.map_eq_some_iff] at hx
      obtain ⟨y, hy, rfl⟩ := hx
      exact hcell j y hy) (hst.im b hI) (by rw [List.length_map]; omega) (by rw [List.length_map]; exact hcc) (by rw [e2]; omega)
    rw [e2, List.length_map] at h
    refine h.mono ?_
    rintro e w' ⟨rfl, hB⟩
    exact ⟨_, rfl, hB, RepV.dv rfl⟩
end Go.Pw
set_option linter.unusedSimpArgs false
set_option linter.unusedVariables false
set_option maxHeartbeats 1000000
namespace Go.Pw
open Go.RowKit Go.Lib
set_option maxRecDepth 2000
open Go Go.Proofs A1 A2 A3 A4
theorem jn_len {c : UInt8} {M : Nat} : ∀ {l : List By}, (∀ x ∈ l, x.length ≤ M) → (jnG c l).length ≤ l.length * (M + 1)
  | [], _ => by simp [jnG]
  | [x], h => by have := h x (by simp); simp [jnG]; omega
  | x :: y :: r, h => by
    have h1 := jn_len (c := c) (M := M) (l := y :: r) (fun z hz => h z (List.mem_cons_of_mem _ hz))
    have h2 := h x (by simp)
    rw [jn_cons (by simp), List.length_append, List.length_cons, List.length_cons, Nat.add_mul, Nat.one_mul]
    omega
abbrev wdL (l : List Int) : List By := l.map itoa
def wdS (l : List Int) : By := jnG 32 (wdL l)
theorem wd_len {l : List Int} (h : ∀ n ∈ l, i64P n) : (wdS l).length ≤ l.length * 22 := by
  have := jn_len (c := 32) (M := 21) (l := wdL l) (fun x hx => by
    obtain ⟨n, hn, rfl⟩ := List.mem_map.1 hx
    exact itoa_length_le n (h n hn).1 (h n hn).2)
  rw [List.length_map] at this; exact this
theorem tk1 {α : Type} {l : List α} {k : Nat} (d : α) (h : k < l.length) : l.take (k + 1) = l.take k ++ [l.getD k d] := by
  rw [List.take_add_one, List.getElem?_eq_getElem h, List.getD_eq_getElem?_getD, List.getElem?_eq_getElem h]; rfl
theorem C109 {l : List Int} : (l.length ≤ 1000 ∧ ∀ n ∈ l, i64P n) → PFD Tryz.prog 109 [.c (ints l)] (sv (wdS l)) := fun ⟨hl, h⟩ => by
  refine pi1 fn109 ?_
  (repeat' first | (refine Owe.same ?_; first | refine Owe.o ?_ | refine Owe.mk ?_ ?_) | (refine Fork.same ?_; (first | refine fkD ?_ ?_ | refine fkN ?_ ?_ | refine fkM ?_ ?_) <;> intro h) | refine MvQ.stay ?_)
  refine Sat.nilS 3 9 1 (fun i => rS (([] : List By).getD i [])) rfl ?_
  refine Sat.lp (fun k : Nat => ⟨[(8, vi .i64 k), (7, vi .i64 l.length), (6, .c (ints l)), (3, .c (.ms 0 (wdL (l.take k)).length))], [(0, rowv 9 1 rS [] (wdL (l.take k)))], 1⟩)
    (fun k => k ≤ l.length) (fun k => l.length - k) 0 [0] (Nat.zero_le _) ?_ ?_
  · (refine qis ?_ ?_ <;> (repeat' first | exact rfl | (refine qS ?_; constructor)))
  · intro k hk
    refine Fork.dec (fun hlt => ?_) (fun hlt => ?_)
    · have hlt : k < l.length := by omega
      have hi : i64P (l.getD (k : Int).toNat 0) := h _ (by
        show l.getD k 0 ∈ l
        rw [List.getD_eq_getElem?_getD, List.getElem?_eq_getElem hlt]; exact List.getElem_mem ..)
      have h84 := C181 hi
      have ht : wdL (l.take (k + 1)) = wdL (l.take k) ++ [itoa (l.getD k 0)] := by
        rw [tk1 0 hlt, wdL, List.map_append]; rfl
      have hk1 : (wdL (l.take k)).length ≤ 1000 := by rw [List.length_map, List.length_take]; omega
      (repeat' first | (refine Owe.same ?_; first | refine Owe.o ?_ | refine Owe.mk ?_ ?_) | (refine Fork.same ?_; (first | refine fkY ?_ | refine fkF ?_ | ((first | refine fkD ?_ ?_ | refine fkN ?_ ?_ | refine fkM ?_ ?_) <;> intro h))) | ((first | refine OpsL.same ?_ | refine OpsDL.same ?_); first | refine oK h84 rfl rfl rfl ?_) | refine MvQ.stay ?_)
      refine again (k + 1) [1] hlt (by omega) ?_
      (refine qis ?_ ?_ <;> (repeat' first | exact rfl | (refine qS ?_; constructor)))
      · rw [ht, List.length_append]; rfl
      · exact ⟨_, rfl, ht⟩
    · have hk1 : k = l.length := by omega
      have hw : wdL (l.take k) = wdL l := by rw [List.take_of_length_le (by omega)]
      have hj := wd_len h
      have hll : (wdL l).length = l.length := List.length_map ..
      have h42 := C93 (l := wdL l) (c := 32) ⟨by omega, by show (wdS l).length ≤ _; omega⟩
      rw [hw]
      (repeat' first | (refine Owe.same ?_; first | refine Owe.o ?_ | refine Owe.mk ?_ ?_) | (refine Fork.same ?_; (first | refine fkD ?_ ?_ | refine fkN ?_ ?_ | refine fkM ?_ ?_) <;> intro h))
      refine MvQ.frz 3 _ rfl rfl (Nat.le_refl _) ?_
      (repeat' first | (refine Owe.same ?_; first | refine Owe.o ?_ | refine Owe.mk ?_ ?_) | (refine Fork.same ?_; (first | refine fkY ?_ | refine fkF ?_ | ((first | refine fkD ?_ ?_ | refine fkN ?_ ?_ | refine fkM ?_ ?_) <;> intro h))) | ((first | refine OpsL.same ?_ | refine OpsDL.same ?_); first | refine oK h42 rfl rfl rfl ?_) | refine MvQ.stay ?_)
      (refine rqK rfl ?_; (repeat' first | exact rfl | (refine qS ?_; constructor)))
theorem ix_hit {c : UInt8} {r : By} : ∀ {p : By}, c ∉ p → indexByte (p ++ c :: r) c = p.length
  | [], _ => by simp [indexByte]
  | x :: p, h => by
    rw [List.mem_cons, not_or] at h
    have e : ¬ x = c := fun e => h.1 e.symm
    have ih := ix_hit (r := r) h.2
    have : ¬ ((p.length : Int) = -1) := by omega
    simp [indexByte, e, ih, this]
theorem ix_miss {c : UInt8} : ∀ {l : By}, c ∉ l → indexByte l c = -1
  | [], _ => rfl
  | x :: l, h => by
    rw [List.mem_cons, not_or] at h
    have e : ¬ x = c := fun e => h.1 e.symm
    have ih := ix_miss h.2
    simp [indexByte, e, ih]
theorem cutB_bs {l : By} {i j : Nat} : cutB (bs l) i j = bs ((l.take j).drop i) := by simp [cutB, bs]
theorem C198h {c : UInt8} {p r : By} : c ∉ p → p.length + r.length ≤ 1000000 → PFD Tryz.prog 198 [sv (p ++ c :: r), .c (.d (.v (.string ⟨#[c]⟩)))] (.tup [sv p, sv r, vbl true]) := fun hc hl => by
  have h130 := C257 (l := p ++ c :: r) (c := c)
  rw [ix_hit hc] at h130
  have hsz : (bs (p ++ c :: r)).size = p.length + r.length + 1 := by rw [bs_size]; simp; omega
  have hs1 : (ByteArray.mk #[c]).size = 1 := rfl
  refine pi3 fn198 ?_
  (repeat' first | (refine Owe.same ?_; first | refine Owe.o ?_ | refine Owe.mk ?_ ?_) | (refine Fork.same ?_; (first | refine fkD ?_ ?_ | refine fkN ?_ ?_ | refine fkM ?_ ?_) <;> intro h) | ((first | refine OpsL.same ?_ | refine OpsDL.same ?_); first | refine pK h130 rfl rfl ?_) | refine MvQ.stay ?_)
  · (refine rqK rfl ?_; (repeat' first | exact rfl | (refine qS ?_; constructor)))
    · refine VEq.str ?_
      rw [cutB_bs]
      simp
    · refine VEq.str ?_
      have e : ((p.length : Int) + ((ByteArray.mk #[c]).size : Nat)).toNat = p.length + 1 := by rw [hs1]; omega
      rw [e]
      simp [bs]
  · omega
theorem C198m {c : UInt8} {s : By} : c ∉ s → PFD Tryz.prog 198 [sv s, .c (.d (.v (.string ⟨#[c]⟩)))] (.tup [sv s, sv [], vbl false]) := fun hc => by
  have h130 := C257 (l := s) (c := c)
  rw [ix_miss hc] at h130
  refine pi3 fn198 ?_
  (repeat' first | (refine Owe.same ?_; first | refine Owe.o ?_ | refine Owe.mk ?_ ?_) | (refine Fork.same ?_; (first | refine fkD ?_ ?_ | refine fkN ?_ ?_ | refine fkM ?_ ?_) <;> intro h) | ((first | refine OpsL.same ?_ | refine OpsDL.same ?_); first | refine pK h130 rfl rfl ?_) | refine MvQ.stay ?_)
  · omega
  · (refine rqK rfl ?_; (repeat' first | exact rfl | (refine qS ?_; constructor)))
theorem C111h {c : UInt8} {p r : By} : c ∉ p → p.length + r.length ≤ 1000000 → PFD Tryz.prog 111 [sv (p ++ c :: r), .c (.d (.v (.string ⟨#[c]⟩)))] (.tup [sv p, sv r, vbl true]) := fun hc hl => by
  have h := C198h hc hl
  refine pi3 fn111 ?_
  (repeat' first | (refine Owe.same ?_; first | refine Owe.o ?_ | refine Owe.mk ?_ ?_) | (refine Fork.same ?_; (first | refine fkD ?_ ?_ | refine fkN ?_ ?_ | refine fkM ?_ ?_) <;> intro h) | ((first | refine OpsL.same ?_ | refine OpsDL.same ?_); first | refine pK h rfl rfl ?_) | refine MvQ.stay ?_)
  (refine rqK rfl ?_; (repeat' first | exact rfl | (refine qS ?_; constructor)))
theorem C111m {c : UInt8} {s : By} : c ∉ s → PFD Tryz.prog 111 [sv s, .c (.d (.v (.string ⟨#[c]⟩)))] (.tup [sv s, sv [], vbl false]) := fun hc => by
  have h := C198m hc
  refine pi3 fn111 ?_
  (repeat' first | (refine Owe.same ?_; first | refine Owe.o ?_ | refine Owe.mk ?_ ?_) | (refine Fork.same ?_; (first | refine fkD ?_ ?_ | refine fkN ?_ ?_ | refine fkM ?_ ?_) <;> intro h) | ((first | refine OpsL.same ?_ | refine OpsDL.same ?_); first | refine pK h rfl rfl ?_) | refine MvQ.stay ?_)
  (refine rqK rfl ?_; (repeat' first | exact rfl | (refine qS ?_; constructor)))
end Go.Pw
set_option linter.unusedSimpArgs false
set_option linter.unusedVariables false
set_option maxHeartbeats 1000000
set_option maxRecDepth 20000
namespace Go.Pw
open Go.RowKit Go.Lib
set_option maxRecDepth 2000
open Go Go.Proofs A1 A2 A3 A4
structure Hd (p : Prop) : Prop where
  h : p
end Go.Pw
set_option linter.unusedSimpArgs false
set_option linter.unusedVariables false
set_option maxHeartbeats 1000000
namespace Go.Pw
open Go.RowKit Go.Lib
set_option maxRecDepth 2000
open Go Go.Proofs A1 A2 A3 A4
end Go.Pw

set_option linter.unusedSimpArgs false
set_option linter.unusedVariables false
set_option maxHeartbeats 1000000
namespace Go.Pw
open Go.RowKit Go.Lib
set_option maxRecDepth 2000
open Go Go.Proofs A1 A2 A3 A4
end Go.Pw

set_option linter.unusedSimpArgs false
set_option linter.unusedVariables false
set_option maxHeartbeats 1000000
namespace Go.Pw
open Go.RowKit Go.Lib
set_option maxRecDepth 2000
open Go Go.Proofs A1 A2 A3 A4
def alL {α : Type} (f : By → Option α) : List By → Option (List α)
  | [] => some []
  | w :: r => match f w, alL f r with
    | some n, some l => some (n :: l)
    | _, _ => none
theorem alL_app {α : Type} {f : By → Option α} {w : By} : ∀ {l : List By} {a : List α}, alL f l = some a → alL f (l ++ [w]) = match f w with | some n => some (a ++ [n]) | none => none
  | [], a, h => by
    cases h
    cases hw : f w <;> simp [alL, hw]
  | x :: l, a, h => by
    rw [alL] at h
    rw [List.cons_append, alL]
    split at h
    · rename_i n m hn hm
      cases h
      rw [alL_app hm, hn]
      cases f w <;> simp
    · cases h
theorem alL_bad {α : Type} {f : By → Option α} {w : By} (hw : f w = none) : ∀ {l r : List By}, alL f (l ++ w :: r) = none
  | [], r => by rw [List.nil_append, alL, hw]
  | x :: l, r => by
    rw [List.cons_append, alL, alL_bad hw]
    cases f x <;> rfl
theorem alL_len {α : Type} {f : By → Option α} : ∀ {l : List By} {a : List α}, alL f l = some a → a.length = l.length
  | [], a, h => by cases h; rfl
  | x :: l, a, h => by
    rw [alL] at h
    split at h
    · rename_i n m hn hm
      cases h
      rw [List.length_cons, List.length_cons, alL_len hm]
    · cases h
theorem alL_map {α : Type} {f : By → Option α} {g : α → By} : ∀ {l : List α}, (∀ x ∈ l, f (g x) = some x) → alL f (l.map g) = some l
  | [], _ => rfl
  | x :: l, h => by
    rw [List.map_cons, alL, h x (by simp), alL_map (fun y hy => h y (List.mem_cons_of_mem _ hy))]
theorem atoi_i64 {s : By} {v : Int} (h : atoiAll s = .ok v) : i64P v := by
  cases s with
  | nil => cases h
  | cons c r =>
    rw [atoiAll] at h
    split at h
    · cases h
    · cases h
    · rename_i u hu
      split at h
      · cases h
      · split at h
        · cases h
        · rename_i h1 h2
          injection h with h
          subst h
          by_cases hn : c.toNat = 45
          · rw [if_pos hn]
            have : ¬ 9223372036854775808 < u := fun hh => h2 ⟨hn, hh⟩
            omega
          · rw [if_neg hn]
            have : ¬ 9223372036854775808 ≤ u := fun hh => h1 ⟨hn, hh⟩
            omega
theorem C191o {s : By} {v : Int} (h : atoiAll s = .ok v) : s.length ≤ 1000000 → PFD Tryz.prog 191 [sv s] (.tup [vi .i64 v, .c (.d (.v .nilIface))]) := fun hs => by
  have := C191 hs
  unfold atV at this
  rw [h] at this; exact this
theorem C191e {s : By} (h : ∀ v, atoiAll s ≠ .ok v) : s.length ≤ 1000000 → ∃ n, PFD Tryz.prog 191 [sv s] (.tup [vi .i64 n, .c .er]) := fun hs => by
  have := C191 hs
  unfold atV at this
  match e : atoiAll s with
  | .ok v => exact absurd e (h v)
  | Lib.NumEnd.syntax => rw [e] at this; exact ⟨_, this⟩
  | .range => rw [e] at this; exact ⟨_, this⟩
theorem cut_len {c : UInt8} : ∀ {l acc : By}, ∀ x ∈ cutG c acc l, x.length ≤ acc.length + l.length
  | [], acc, x, hx => by rw [cutG, List.mem_singleton] at hx; subst hx; simp
  | y :: l, acc, x, hx => by
    rw [cutG] at hx
    split at hx
    · rcases List.mem_cons.1 hx with h1 | h1
      · subst h1; simp
      · have := cut_len x h1; simp at this ⊢; omega
    · have := cut_len x hx; simp at this ⊢; omega
theorem cut_count {c : UInt8} : ∀ {l acc : By}, (cutG c acc l).length ≤ l.length + 1
  | [], acc => by simp [cutG]
  | y :: l, acc => by
    rw [cutG]; split
    · have := cut_count (c := c) (l := l) (acc := []); simp; omega
    · have := cut_count (c := c) (l := l) (acc := acc ++ [y]); simp; omega
def ntV (d : Int) (w : By) : Option Int := match numV w d with
  | some n => if 0 ≤ n then some n else none
  | none => none
abbrev naL (d : Int) (W : List By) : Option (List Int) := alL (ntV d) W
theorem ntV_ok {d : Int} (hd : d ≤ 18) {w : By} {v : Int} (h1 : atoiAll w = .ok v) (h2 : 0 ≤ v) (h3 : itoa v = w) (h4 : (w.length : Int) ≤ d) : ntV d w = some v := by
  have h := ((nat_iff hd).1 ⟨h1, h2, h3, h4⟩).1
  unfold ntV; rw [h]
  simp [h2]
theorem ntV_no {d : Int} (hd : d ≤ 18) {w : By} (h : ¬ ∃ v, atoiAll w = .ok v ∧ 0 ≤ v ∧ itoa v = w ∧ (w.length : Int) ≤ d) : ntV d w = none := by
  cases hn : numV w d with
  | none => unfold ntV; rw [hn]
  | some n =>
    unfold ntV; rw [hn]
    by_cases h0 : 0 ≤ n
    · exact absurd ⟨n, (nat_iff hd).2 ⟨hn, h0⟩⟩ h
    · simp [h0]
theorem naL_bad {d : Int} {s w : By} {dn rr : List By} (h : cutG 32 [] s = dn ++ w :: rr) (hw : ntV d w = none) : naL d (cutG 32 [] s) = none := by
  rw [h]; exact alL_bad hw
theorem C112 {s : By} {d : Int} : (s.length ≤ 1000000 ∧ d ≤ 18) → PFD Tryz.prog 112 [sv s, vi .i64 d] (.tup [.c (ints ((naL d (cutG 32 [] s)).getD [])), vbl (naL d (cutG 32 [] s)).isSome]) := fun ⟨hs, hd⟩ => by
  refine pi2 fn112 ?_
  (repeat' first | (refine Owe.same ?_; first | refine Owe.o ?_ | refine Owe.mk ?_ ?_) | (refine Fork.same ?_; (first | refine fkD ?_ ?_ | refine fkN ?_ ?_ | refine fkM ?_ ?_) <;> intro h) | refine MvQ.stay ?_)
  refine Ops.cs rfl rfl (CallS.of fn110 rfl ?_)
  (repeat' first | (refine Owe.same ?_; first | refine Owe.o ?_ | refine Owe.mk ?_ ?_) | (refine Fork.same ?_; (first | refine fkD ?_ ?_ | refine fkN ?_ ?_ | refine fkM ?_ ?_) <;> intro h) | refine MvQ.stay ?_)
  refine Ops.cs rfl rfl (CallS.of fn197 rfl ?_)
  (repeat' first | (refine Owe.same ?_; first | refine Owe.o ?_ | refine Owe.mk ?_ ?_) | (refine Fork.same ?_; (first | refine fkD ?_ ?_ | refine fkN ?_ ?_ | refine fkM ?_ ?_) <;> intro h) | refine MvQ.stay ?_)
  refine Sat.keep [3, 4, 5, 6, 11] ?_
  refine Sat.rf rfl rfl (CallS.of fn255 rfl ?_)
  (repeat' first | (refine Owe.same ?_; first | refine Owe.o ?_ | refine Owe.mk ?_ ?_) | (refine Fork.same ?_; (first | refine fkD ?_ ?_ | refine fkN ?_ ?_ | refine fkM ?_ ?_) <;> intro h) | refine MvQ.stay ?_)
  · exact absurd h (by decide)
  refine Sat.nilB 2 0 3 1 (fun i => r1 (([] : List Int).getD i 0)) rfl rfl ?_
  refine Sat.lp (fun st : List Int × By => ⟨[(0, .c (.yd 6)), (1, .c (.bp 4 0)), (2, .c (.bp 3 0)), (3, .c (.bp 5 0))],
      [(0, .box [.d (.v (.slice none 0 0))]), (1, .box [.d (.v (.bool false))]), (2, .box [.ms 7 st.1.length]), (3, .box [.d (svD st.2)]), (4, .box [.d (.v (.string ⟨#[32]⟩))]), (5, .box [int 0]),
       (6, .lp [(3, .c (.rp [dI d])), (4, .c (.bp 0 0)), (5, .c (.bp 1 0)), (6, .c (.bp 2 0)), (11, .c (.fn 255 [4, 3, 5]))] .ready none (RR Tryz.prog 41 [12] ra112 rb112)), (7, rowv 3 1 r1 0 st.1)], 8⟩)
    (fun st : List Int × By => st.1.length + st.2.length ≤ 1000000 ∧ ∃ dn, cutG 32 [] s = dn ++ cutG 32 [] st.2 ∧ naL d dn = some st.1) (fun st : List Int × By => st.2.length) ([], s) [7] ⟨by simpa using hs, [], rfl, rfl⟩ ?_ ?_
  · (refine qis ?_ ?_ <;> (repeat' first | exact rfl | (refine qS ?_; constructor)))
  · rintro ⟨acc, rest⟩ ⟨hlen, dn, hcut, hdn⟩
    simp only at hlen hcut hdn
    rcases ix_cases 32 rest with ⟨hi, hm⟩ | ⟨p, r, rfl, hm, hi⟩
    · have h124 := C249 (l := rest) (c := 32)
      rw [hi] at h124
      (repeat' first | (refine Owe.same ?_; first | refine Owe.o ?_ | refine Owe.mk ?_ ?_) | (refine Fork.same ?_; (first | refine fkD ?_ ?_ | refine fkN ?_ ?_ | refine fkM ?_ ?_) <;> intro h) | ((first | refine OpsL.same ?_ | refine OpsDL.same ?_); first | refine pK h124 rfl rfl ?_) | refine MvQ.stay ?_)
      · refine OpsL.as 50 (sv rest) (.refl _) ?_
        by_cases hok : ∃ v, atoiAll rest = .ok v
        · obtain ⟨v, hv⟩ := hok
          have h88 := C191o hv (by omega)
          have h84 := C181 (atoi_i64 hv)
          have bad : (¬ ∃ v, atoiAll rest = .ok v ∧ 0 ≤ v ∧ itoa v = rest ∧ (rest.length : Int) ≤ d) → naL d (cutG 32 [] s) = none := fun hh => naL_bad (rr := []) (hcut.trans (by rw [cutG_miss hm, List.nil_append])) (ntV_no hd hh)
          have only : ∀ {v'}, atoiAll rest = .ok v' → v' = v := fun h => by rw [hv] at h; injection h with h; exact h.symm
          refine Ops.yd rfl rfl rfl rfl rfl ?_
          (repeat' first | (refine Owe.same ?_; first | refine Owe.o ?_ | refine Owe.mk ?_ ?_) | (refine Fork.same ?_; (first | refine fkD ?_ ?_ | refine fkN ?_ ?_ | refine fkM ?_ ?_) <;> intro h) | refine MvQ.stay ?_)
          refine And.intro rfl (Exists.intro _ (And.intro rfl ?_))
          (repeat' first | (refine Owe.same ?_; first | refine Owe.o ?_ | refine Owe.mk ?_ ?_) | (refine Fork.same ?_; (first | refine fkD ?_ ?_ | refine fkN ?_ ?_ | refine fkM ?_ ?_) <;> intro h) | ((first | refine OpsL.same ?_ | refine OpsDL.same ?_); first | refine pK h88 rfl rfl ?_ | refine pK h84 rfl rfl ?_) | refine MvQ.stay ?_)
          · refine Exists.intro _ (Exists.intro _ (Exists.intro _ (And.intro rfl ?_)))
            (repeat' first | (refine Owe.same ?_; first | refine Owe.o ?_ | refine Owe.mk ?_ ?_) | (refine Fork.same ?_; (first | refine fkD ?_ ?_ | refine fkN ?_ ?_ | refine fkM ?_ ?_) <;> intro h) | refine MvQ.stay ?_)
            rw [bad (fun ⟨v', h1, h2, _⟩ => by have := only h1; omega)]
            (refine rqK rfl ?_; (repeat' first | exact rfl | (refine qS ?_; constructor)))
          · refine Exists.intro _ (Exists.intro _ (Exists.intro _ (And.intro rfl ?_)))
            (repeat' first | (refine Owe.same ?_; first | refine Owe.o ?_ | refine Owe.mk ?_ ?_) | (refine Fork.same ?_; (first | refine fkD ?_ ?_ | refine fkN ?_ ?_ | refine fkM ?_ ?_) <;> intro h) | refine MvQ.stay ?_)
            rw [bad (fun ⟨v', h1, _, h3, _⟩ => by have := only h1; subst this; exact h (by rw [h3]))]
            (refine rqK rfl ?_; (repeat' first | exact rfl | (refine qS ?_; constructor)))
          · refine Exists.intro _ (Exists.intro _ (Exists.intro _ (And.intro rfl ?_)))
            (repeat' first | (refine Owe.same ?_; first | refine Owe.o ?_ | refine Owe.mk ?_ ?_) | (refine Fork.same ?_; (first | refine fkD ?_ ?_ | refine fkN ?_ ?_ | refine fkM ?_ ?_) <;> intro h) | refine MvQ.stay ?_)
            rw [bad (fun ⟨v', h1, _, _, h4⟩ => by rw [bs_size] at h; omega)]
            (refine rqK rfl ?_; (repeat' first | exact rfl | (refine qS ?_; constructor)))
          · have hz : itoa v = rest := by simpa [bs] using (‹(bs (itoa v)).data.toList = (bs rest).data.toList›)
            have hnt := ntV_ok hd hv (by omega) hz (by rw [bs_size] at h; omega)
            have e : naL d (cutG 32 [] s) = some (acc ++ [v]) := by rw [hcut, cutG_miss hm, List.nil_append, naL, alL_app hdn, hnt]
            rw [e]
            refine Exists.intro _ (Exists.intro _ (Exists.intro _ (And.intro rfl ?_)))
            (repeat' first | (refine Owe.same ?_; first | refine Owe.o ?_ | refine Owe.mk ?_ ?_) | (refine Fork.same ?_; (first | refine fkD ?_ ?_ | refine fkN ?_ ?_ | refine fkM ?_ ?_) <;> intro h) | refine MvQ.stay ?_)
            refine rqF 0 _ rfl rfl rfl ?_; (repeat' first | exact rfl | (refine qS ?_; constructor))
            · exact ⟨v, rfl, rfl⟩
        · obtain ⟨m, h88⟩ := C191e (fun v hv => hok ⟨v, hv⟩) (show rest.length ≤ 1000000 by omega)
          have hbad : naL d (cutG 32 [] s) = none := naL_bad (rr := []) (hcut.trans (by rw [cutG_miss hm, List.nil_append])) (ntV_no hd (w := rest) (fun ⟨v, hv, _⟩ => hok ⟨v, hv⟩))
          refine Ops.yd rfl rfl rfl rfl rfl ?_
          (repeat' first | (refine Owe.same ?_; first | refine Owe.o ?_ | refine Owe.mk ?_ ?_) | (refine Fork.same ?_; (first | refine fkD ?_ ?_ | refine fkN ?_ ?_ | refine fkM ?_ ?_) <;> intro h) | refine MvQ.stay ?_)
          refine And.intro rfl (Exists.intro _ (And.intro rfl ?_))
          (repeat' first | (refine Owe.same ?_; first | refine Owe.o ?_ | refine Owe.mk ?_ ?_) | (refine Fork.same ?_; (first | refine fkD ?_ ?_ | refine fkN ?_ ?_ | refine fkM ?_ ?_) <;> intro h) | ((first | refine OpsL.same ?_ | refine OpsDL.same ?_); first | refine pK h88 rfl rfl ?_) | refine MvQ.stay ?_)
          refine Exists.intro _ (Exists.intro _ (Exists.intro _ (And.intro rfl ?_)))
          (repeat' first | (refine Owe.same ?_; first | refine Owe.o ?_ | refine Owe.mk ?_ ?_) | (refine Fork.same ?_; (first | refine fkD ?_ ?_ | refine fkN ?_ ?_ | refine fkM ?_ ?_) <;> intro h) | refine MvQ.stay ?_)
          rw [hbad]
          (refine rqK rfl ?_; (repeat' first | exact rfl | (refine qS ?_; constructor)))
      · exact absurd (by decide) h
    · have h124 := C249 (l := p ++ 32 :: r) (c := 32)
      rw [hi] at h124
      have hsz : (bs (p ++ 32 :: r)).size = p.length + r.length + 1 := by rw [bs_size]; simp; omega
      have hs1 : (ByteArray.mk #[32]).size = 1 := rfl
      (repeat' first | (refine Owe.same ?_; first | refine Owe.o ?_ | refine Owe.mk ?_ ?_) | (refine Fork.same ?_; (first | refine fkD ?_ ?_ | refine fkN ?_ ?_ | refine fkM ?_ ?_) <;> intro h) | ((first | refine OpsL.same ?_ | refine OpsDL.same ?_); first | refine pK h124 rfl rfl ?_) | refine MvQ.stay ?_)
      · omega
      · rw [show (bs (acc, p ++ 32 :: r).snd).size = _ from hsz]
        have hlp : p.length + r.length ≤ 1000000 := by simp at hlen; omega
        exact ob
      refine OpsL.as 40 (sv p) ?_ ?_
      · refine VEq.str ?_
        rw [cutB_bs]; simp
      have hlp : p.length + r.length ≤ 1000000 := by simp at hlen; omega
      by_cases hok : ∃ v, atoiAll p = .ok v
      · obtain ⟨v, hv⟩ := hok
        have h88 := C191o hv (by omega)
        have h84 := C181 (atoi_i64 hv)
        refine Ops.yd rfl rfl rfl rfl rfl ?_
        (repeat' first | (refine Owe.same ?_; first | refine Owe.o ?_ | refine Owe.mk ?_ ?_) | (refine Fork.same ?_; (first | refine fkD ?_ ?_ | refine fkN ?_ ?_ | refine fkM ?_ ?_) <;> intro h) | refine MvQ.stay ?_)
        refine And.intro rfl (Exists.intro _ (And.intro rfl ?_))
        have bad : (¬ ∃ v, atoiAll p = .ok v ∧ 0 ≤ v ∧ itoa v = p ∧ (p.length : Int) ≤ d) → naL d (cutG 32 [] s) = none := fun hh => naL_bad (hcut.trans (by rw [cutG_hit hm, List.nil_append])) (ntV_no hd hh)
        have only : ∀ {v'}, atoiAll p = .ok v' → v' = v := fun h => by rw [hv] at h; injection h with h; exact h.symm
        (repeat' first | (refine Owe.same ?_; first | refine Owe.o ?_ | refine Owe.mk ?_ ?_) | (refine Fork.same ?_; (first | refine fkD ?_ ?_ | refine fkN ?_ ?_ | refine fkM ?_ ?_) <;> intro h) | ((first | refine OpsL.same ?_ | refine OpsDL.same ?_); first | refine pK h88 rfl rfl ?_ | refine pK h84 rfl rfl ?_) | refine MvQ.stay ?_)
        · refine Exists.intro _ (Exists.intro _ (Exists.intro _ (And.intro rfl ?_)))
          (repeat' first | (refine Owe.same ?_; first | refine Owe.o ?_ | refine Owe.mk ?_ ?_) | (refine Fork.same ?_; (first | refine fkD ?_ ?_ | refine fkN ?_ ?_ | refine fkM ?_ ?_) <;> intro h) | refine MvQ.stay ?_)
          rw [bad (fun ⟨v', h1, h2, _⟩ => by have := only h1; omega)]
          (refine rqK rfl ?_; (repeat' first | exact rfl | (refine qS ?_; constructor)))
        · refine Exists.intro _ (Exists.intro _ (Exists.intro _ (And.intro rfl ?_)))
          (repeat' first | (refine Owe.same ?_; first | refine Owe.o ?_ | refine Owe.mk ?_ ?_) | (refine Fork.same ?_; (first | refine fkD ?_ ?_ | refine fkN ?_ ?_ | refine fkM ?_ ?_) <;> intro h) | refine MvQ.stay ?_)
          rw [bad (fun ⟨v', h1, _, h3, _⟩ => by have := only h1; subst this; exact h (by rw [h3]))]
          (refine rqK rfl ?_; (repeat' first | exact rfl | (refine qS ?_; constructor)))
        · refine Exists.intro _ (Exists.intro _ (Exists.intro _ (And.intro rfl ?_)))
          (repeat' first | (refine Owe.same ?_; first | refine Owe.o ?_ | refine Owe.mk ?_ ?_) | (refine Fork.same ?_; (first | refine fkD ?_ ?_ | refine fkN ?_ ?_ | refine fkM ?_ ?_) <;> intro h) | refine MvQ.stay ?_)
          rw [bad (fun ⟨v', h1, _, _, h4⟩ => by rw [bs_size] at h; omega)]
          (refine rqK rfl ?_; (repeat' first | exact rfl | (refine qS ?_; constructor)))
        · refine Exists.intro _ (Exists.intro _ (Exists.intro _ (And.intro rfl ?_)))
          (repeat' first | (refine Owe.same ?_; first | refine Owe.o ?_ | refine Owe.mk ?_ ?_) | (refine Fork.same ?_; (first | refine fkD ?_ ?_ | refine fkN ?_ ?_ | refine fkM ?_ ?_) <;> intro h) | refine MvQ.stay ?_)
          have hz : itoa v = p := by simpa [bs] using (‹(bs (itoa v)).data.toList = (bs p).data.toList›)
          have hnt := ntV_ok hd hv (by omega) hz (by rw [bs_size] at h; omega)
          refine again (acc ++ [v], r) [8] ⟨by simp at hlen ⊢; omega, dn ++ [p], by rw [hcut, cutG_hit hm]; simp, by rw [naL, alL_app hdn, hnt]⟩ (by simp; omega) ?_
          (refine qis ?_ ?_ <;> (repeat' first | exact rfl | (refine qS ?_; constructor)))
          · simp
          · refine CEq.str ?_
            have e : ((p.length : Int) + ((ByteArray.mk #[32]).size : Nat)).toNat = p.length + 1 := by rw [hs1]; omega
            rw [e]
            simp [bs]
      · obtain ⟨m, h88⟩ := C191e (fun v hv => hok ⟨v, hv⟩) (show p.length ≤ 1000000 by omega)
        have hbad : naL d (cutG 32 [] s) = none := naL_bad (hcut.trans (by rw [cutG_hit hm, List.nil_append])) (ntV_no hd (w := p) (fun ⟨v, hv, _⟩ => hok ⟨v, hv⟩))
        refine Ops.yd rfl rfl rfl rfl rfl ?_
        (repeat' first | (refine Owe.same ?_; first | refine Owe.o ?_ | refine Owe.mk ?_ ?_) | (refine Fork.same ?_; (first | refine fkD ?_ ?_ | refine fkN ?_ ?_ | refine fkM ?_ ?_) <;> intro h) | refine MvQ.stay ?_)
        refine And.intro rfl (Exists.intro _ (And.intro rfl ?_))
        (repeat' first | (refine Owe.same ?_; first | refine Owe.o ?_ | refine Owe.mk ?_ ?_) | (refine Fork.same ?_; (first | refine fkD ?_ ?_ | refine fkN ?_ ?_ | refine fkM ?_ ?_) <;> intro h) | ((first | refine OpsL.same ?_ | refine OpsDL.same ?_); first | refine pK h88 rfl rfl ?_) | refine MvQ.stay ?_)
        refine Exists.intro _ (Exists.intro _ (Exists.intro _ (And.intro rfl ?_)))
        (repeat' first | (refine Owe.same ?_; first | refine Owe.o ?_ | refine Owe.mk ?_ ?_) | (refine Fork.same ?_; (first | refine fkD ?_ ?_ | refine fkN ?_ ?_ | refine fkM ?_ ?_) <;> intro h) | refine MvQ.stay ?_)
        rw [hbad]
        (refine rqK rfl ?_; (repeat' first | exact rfl | (refine qS ?_; constructor)))
theorem ntV_some {d n : Int} {w : By} (h : numV w d = some n) (h0 : 0 ≤ n) : ntV d w = some n := by unfold ntV; rw [h]; simp [h0]
end Go.Pw
set_option linter.unusedVariables false
set_option maxHeartbeats 2000000
set_option maxRecDepth 100000
namespace Go.Pw
open Go Go.Proofs
def lc27u : LCode :=
 (zQ [⟨some 2, .mv (.const (.string ⟨#[]⟩)), none⟩] (zQ [zI 3 (.mv (.const (.slice none 0 0)))] (.seq (zQ [zM 7 0, zI 8 (.len (zR 7)), zI 9 (.mv (zK 0))] (.block 0 (.loop (zQ [zI 10 (.bin .lss (zR 9) (zR 8))] (.seq (.cond
 (zR 10) .skip (.exit 0)) (.seq (.block 1 (zQ [zI 11 (.idx 9 (zR 7) (zR 9)), zI 12 (.load true 9 (zR 11)), ⟨some 5, .alloc [(.string ⟨#[]⟩), (.int .i64 0), (.int .i64 0), (.int .i64 0), (.int .i64 0), (.int .i64 0), (.int
 .i64 0), (.int .i64 0), (.slice none 0 0)], none⟩, zN (.store 9 (zR 5) (zR 12))] (zQ [zI 13 (.fld 1 (zR 5)), zL 14 13, zI 15 (.fld 2 (zR 5)), zL 16 15, zI 17 (.fld 3 (zR 5)), zL 18 17, zI 19 (.fld 4 (zR 5)), zL 20 19, zI
 21 (.fld 5 (zR 5)), zL 22 21, zI 23 (.fld 6 (zR 5)), zI 24 (.fld 0 (zR 23)), zL 25 24, zI 26 (.fld 6 (zR 5)), zI 27 (.fld 1 (zR 26)), zL 28 27, zI 29 (.lit true 3 1 [(zR 14), (zR 16), (zR 18), (zR 20), (zR 22), (zR 25),
 (zR 28)]), zI 30 (.fld 8 (zR 5)), zL 31 30, zI 32 (.append true 3 1 8 (zR 29) (zR 31)), zM 6 32] (.stop (.regionD [zM 33 3, zI 34 (.fld 0 (zR 5)), zL 35 34, ⟨some 36, .catS (zR 35) (.const (.string ⟨#[32]⟩)), none⟩, zM
 37 6, zI 38 (zC 109 [(zR 37)]), zI 39 (.catS (zR 36) (zR 38)), zI 40 (.lit false 9 1 [(zR 39)]), zI 41 (.append true 9 1 16 (zR 33) (zR 40)), zM 3 41] [0, 0, 2, 6, 0, 16, 62, 126, 255, 511] [0, 1, 2, 3, 4, 5, 6, 7, 8,
 9]))))) (.region [zI 42 (.bin .add (zR 9) (zK 1)), zM 9 42]))))))) (zQ [zM 43 3, ⟨some 44, zC 93 [(zR 43), (.const (.string ⟨#[59]⟩))], none⟩, zM 2 44] .ret))))
theorem low27u : lowF Tryz.prog [29, 32, 41] Tryz.f27 = some (45, lc27u.strip, [.tmp 2]) := by kernel_rfl
theorem fn27u : FnOk Tryz.prog 27 45 lc27u [.tmp 2] := ⟨Tryz.call27, [29, 32, 41], _, Tryz.func27, low27u⟩
end Go.Pw
set_option linter.unusedSimpArgs false
set_option linter.unusedVariables false
set_option maxHeartbeats 1000000
namespace Go.Pw
open Go.RowKit Go.Lib
set_option maxRecDepth 2000
open Go Go.Proofs A1 A2 A3 A4
end Go.Pw

set_option linter.unusedSimpArgs false
set_option linter.unusedVariables false
set_option maxHeartbeats 1000000
namespace Go.Pw
open Go.RowKit Go.Lib
set_option maxRecDepth 2000
open Go Go.Proofs A1 A2 A3 A4
def tkN (t : Tk) : List Int := [t.p, t.d, t.w, t.o, t.v, t.lo, t.hi] ++ t.a
abbrev tkB (t : Tk) : By := t.n.data.toList
def tkS (t : Tk) : By := tkB t ++ 32 :: wdS (tkN t)
def tsS (l : List Tk) : By := jnG 59 (l.map tkS)
structure Tk64 (q : Tk) : Prop where
  n : q.n.size ≤ 100
  a : q.a.length ≤ 100
  i : ∀ n ∈ tkN q, i64P n
theorem tkN_len (t : Tk) : (tkN t).length = 7 + t.a.length := by rw [tkN, List.length_append]; rfl
theorem tkN_eq (t : Tk) {i : Nat} (hi : i < 7 + t.a.length) : (if i < 7 then [[dI t.p], [dI t.d], [dI t.w], [dI t.o], [dI t.v], [dI t.lo], [dI t.hi]].getD i [] else r1 (t.a.getD (i - 7) 0)) = r1 ((tkN t).getD i 0) := by
  by_cases h : i < 7
  · rw [if_pos h]
    match i, h with
    | 0, _ => rfl
    | 1, _ => rfl
    | 2, _ => rfl
    | 3, _ => rfl
    | 4, _ => rfl
    | 5, _ => rfl
    | 6, _ => rfl
  · rw [if_neg h, tkN, List.getD_eq_getElem?_getD (l := _ ++ t.a), List.getElem?_append_right (by show 7 ≤ i; omega), List.getD_eq_getElem?_getD]; rfl
theorem tkS_len {t : Tk} (h : Tk64 t) : (tkS t).length ≤ 3000 := by
  have h1 := wd_len h.i
  have h2 := tkN_len t
  have h3 : (tkB t).length = t.n.size := Array.length_toList
  have := h.n
  have := h.a
  rw [tkS, List.length_append, List.length_cons]; omega
theorem ts_len {l : List Tk} (h : ∀ t ∈ l, Tk64 t) : (tsS l).length ≤ l.length * 3001 := by
  have := jn_len (c := 59) (M := 3000) (l := l.map tkS) (fun x hx => by
    obtain ⟨t, ht, rfl⟩ := List.mem_map.1 hx
    exact tkS_len (h t ht))
  rw [List.length_map] at this; exact this
theorem C27 {l : List Tk} : (l.length ≤ 100 ∧ ∀ t ∈ l, Tk64 t) → PFD Tryz.prog 27 [.c (tks l)] (sv (tsS l)) := fun ⟨hl, h⟩ => by
  have hj := ts_len h
  have h := Hd.mk h
  have h93 := C93 (l := l.map tkS) (c := 59) ⟨by rw [List.length_map]; omega, by show (tsS l).length ≤ _; omega⟩
  refine pi1 fn27u ?_
  (repeat' first | (refine Owe.same ?_; first | refine Owe.o ?_ | refine Owe.mk ?_ ?_) | (refine Fork.same ?_; (first | refine fkD ?_ ?_ | refine fkN ?_ ?_ | refine fkM ?_ ?_) <;> intro h) | refine MvQ.stay ?_)
  refine Sat.nilS 3 9 1 (fun i => rS (([] : List By).getD i [])) rfl ?_
  refine Sat.lp (fun k : Nat => ⟨[(7, .c (tks l)), (8, vi .i64 l.length), (9, vi .i64 k), (3, .c (.ms 0 ((l.take k).map tkS).length))], [(0, rowv 9 1 rS [] ((l.take k).map tkS))], 1⟩)
    (fun k => k ≤ l.length) (fun k => l.length - k) 0 [0] (Nat.zero_le _) ?_ ?_
  · (refine qis ?_ ?_ <;> (repeat' first | exact rfl | (refine qS ?_; constructor)))
  · intro k hk
    refine Fork.dec (fun hlt => ?_) (fun hlt => ?_)
    · have hlt : k < l.length := by have : (k : Int) < l.length := hlt; omega
      have hi := h.h _ (getD_mem tk0 hlt)
      have hal := hi.a
      have hnl := tkN_len (l.getD k tk0)
      have hT : ∀ t ∈ [l.getD k tk0], Tk64 t := fun t ht => by rw [List.mem_singleton] at ht; rw [ht]; exact hi
      have h109 := C109 (l := tkN (l.getD k tk0)) ⟨by omega, hi.i⟩
      have hz := wd_len hi.i
      have hz1 : (bs (wdS (tkN (l.getD k tk0)))).size ≤ 3000 := by rw [bs_size]; omega
      have hn : (l.getD k tk0).n.size ≤ 100 := hi.n
      have hs1 : (ByteArray.mk #[32]).size = 1 := rfl
      have htS : tkS (l.getD k tk0) = (l.getD k tk0).n.data.toList ++ 32 :: wdS (tkN (l.getD k tk0)) := rfl
      have ht : (l.take (k + 1)).map tkS = (l.take k).map tkS ++ [tkS (l.getD k tk0)] := by
        rw [tk1 tk0 hlt, List.map_append]; rfl
      have hk1 : ((l.take k).map tkS).length ≤ 100 := by rw [List.length_map, List.length_take]; omega
      (repeat' first | (refine Owe.same ?_; first | refine Owe.o ?_ | refine Owe.mk ?_ ?_) | (refine Fork.same ?_; (first | refine fkD ?_ ?_ | refine fkN ?_ ?_ | refine fkM ?_ ?_) <;> (intro h; try (exfalso; omega))) | refine MvQ.stay ?_)
      refine SatL.frz 6 3 rfl rfl (Nat.le_refl _) ?_
      refine SatL.as 6 (.c (ints (tkN (l.getD k tk0)))) ?_ ?_
      · exact VEq.c _ _ (CEq.sl hnl.symm (fun i hi => tkN_eq _ hi))
      refine SatL.go ?_
      generalize hW : wdS (tkN (l.getD k tk0)) = W at *
      generalize hL : (l.take k).map tkS = L at *
      clear hi hT hj
      have o1 : (((l.getD k tk0).n.size + (ByteArray.mk #[32]).size : Nat) : Int) ≤ 9223372036854775807 := by omega
      have o2 : (((bs ((l.getD k tk0).n.data.toList ++ [32])).size + (bs W).size : Nat) : Int) ≤ 9223372036854775807 := by
        have h1 : (bs ((l.getD k tk0).n.data.toList ++ [32])).size = (l.getD k tk0).n.size + 1 := by
          rw [bs_size, List.length_append]
          show (l.getD k tk0).n.data.toList.length + 1 = (l.getD k tk0).n.data.size + 1
          rw [Array.length_toList]
        omega
      have o3 : ((L.length : Int) + 1) ≤ 1000 := by omega
      (repeat' first | (refine Owe.same ?_; refine Owe.mk ?_ ?_) | (refine Fork.same ?_; (first | refine fkD ?_ ?_ | refine fkN ?_ ?_ | refine fkM ?_ ?_) <;> intro h) | ((first | refine OpsL.same ?_ | refine OpsDL.same ?_); first | refine oK h109 rfl rfl rfl ?_) | refine MvQ.stay ?_)
      · exact o1
      · refine ⟨⟨o2, trivial⟩, ?_⟩
        clear o1 o2
        refine ⟨rfl, ?_⟩
        show (L.length + 1) * 16 ≤ 140737488355328
        omega
      · clear o1 o2; exact ⟨by omega, by omega⟩
      · refine again (k + 1) [11] hlt (by omega) ?_
        (refine qis ?_ ?_ <;> (repeat' first | exact rfl | (refine qS ?_; constructor)))
        · rw [ht, List.length_append]; rfl
        · refine ⟨tkS (l.getD k tk0), ?_, ht⟩
          rw [htS]
          refine congrArg (fun z => [D.v (.string z)]) ?_
          simp [bs]
    · have hk1 : k = l.length := by have : ¬ (k : Int) < l.length := hlt; omega
      have hw : (l.take k).map tkS = l.map tkS := by rw [List.take_of_length_le (by omega)]
      rw [hw]
      (repeat' first | (refine Owe.same ?_; first | refine Owe.o ?_ | refine Owe.mk ?_ ?_) | (refine Fork.same ?_; (first | refine fkD ?_ ?_ | refine fkN ?_ ?_ | refine fkM ?_ ?_) <;> intro h))
      refine MvQ.frz 3 _ rfl rfl (Nat.le_refl _) ?_
      (repeat' first | (refine Owe.same ?_; first | refine Owe.o ?_ | refine Owe.mk ?_ ?_) | (refine Fork.same ?_; (first | refine fkY ?_ | refine fkF ?_ | ((first | refine fkD ?_ ?_ | refine fkN ?_ ?_ | refine fkM ?_ ?_) <;> intro h))) | ((first | refine OpsL.same ?_ | refine OpsDL.same ?_); first | refine oK h93 rfl rfl rfl ?_) | refine MvQ.stay ?_)
      (refine rqK rfl ?_; (repeat' first | exact rfl | (refine qS ?_; constructor)))
end Go.Pw
set_option linter.unusedSimpArgs false
set_option linter.unusedVariables false
set_option maxRecDepth 20000
set_option maxHeartbeats 1000000
namespace Go.Pw
open Go Go.RowKit Go.Lib Go.Sort
open Go.Proofs
end Go.Pw

set_option linter.unusedSimpArgs false
set_option linter.unusedVariables false
set_option maxHeartbeats 1000000
namespace Go.Pw
open Go.RowKit Go.Lib
set_option maxRecDepth 2000
open Go Go.Proofs A1 A2 A3 A4
theorem C112y {s : By} {d : Int} {l : List Int} (h : naL d (cutG 32 [] s) = some l) (hs : s.length ≤ 1000000) (hd : d ≤ 18) : PFD Tryz.prog 112 [sv s, vi .i64 d] (.tup [.c (ints l), vbl true]) := by
  have := C112 (s := s) ⟨hs, hd⟩; rw [h] at this; exact this
theorem C112n {s : By} {d : Int} (h : naL d (cutG 32 [] s) = none) (hs : s.length ≤ 1000000) (hd : d ≤ 18) : PFD Tryz.prog 112 [sv s, vi .i64 d] (.tup [.c (ints []), vbl false]) := by
  have := C112 (s := s) ⟨hs, hd⟩; rw [h] at this; exact this
theorem hPc {s : By} {c : UInt8} (hs : s.length ≤ 900000) : (cutG c [] s).length ≤ 1000000 ∧ ∀ x ∈ cutG c [] s, x.length ≤ 1000000 :=
  ⟨by have := cut_count (c := c) (l := s) (acc := []); omega, fun x hx => by have := cut_len x hx; simp at this; omega⟩
end Go.Pw
set_option linter.unusedVariables false
set_option maxHeartbeats 2000000
set_option maxRecDepth 100000
namespace Go.Pw
open Go Go.Proofs
end Go.Pw

set_option linter.unusedSimpArgs false
set_option linter.unusedVariables false
set_option maxHeartbeats 1000000
namespace Go.Pw
open Go.RowKit Go.Lib
set_option maxRecDepth 2000
open Go Go.Proofs A1 A2 A3 A4
end Go.Pw

set_option linter.unusedSimpArgs false
set_option linter.unusedVariables false
set_option maxHeartbeats 1000000
namespace Go.Pw
open Go.RowKit Go.Lib
set_option maxRecDepth 2000
open Go Go.Proofs A1 A2 A3 A4
theorem C42 {l : List Tk} : (l.length ≤ 1000000 ∧ TkSm l) → PFD Tryz.prog 42 [.c (tks l), .c (tks l)] (vbl true) := fun ⟨hl, hs⟩ => by
  refine pi1 fn42 ?_
  (repeat' first | (refine Owe.same ?_; first | refine Owe.o ?_ | refine Owe.mk ?_ ?_) | (refine Fork.same ?_; (first | refine fkY ?_ | refine fkF ?_ | ((first | refine fkD ?_ ?_ | refine fkN ?_ ?_ | refine fkM ?_ ?_) <;> (intro h; try (exfalso; omega))))) | ((first | refine OpsL.same ?_ | refine OpsDL.same ?_); first | refine oK C44 rfl rfl rfl ?_) | refine MvQ.stay ?_)
  refine Sat.lp (fun k : Nat => ⟨[(0, .c (tks l)), (1, .c (tks l)), (5, vi .i64 (k : Int))], [], 0⟩)
    (fun k => k ≤ l.length) (fun k => l.length - k) 0 [] (Nat.zero_le _) ?_ ?_
  · (refine qis ?_ ?_ <;> (repeat' first | exact rfl | (refine qS ?_; constructor)))
  · intro k hk
    refine Fork.dec (fun hlt => ?_) (fun hlt => ?_)
    · have hlt : k < l.length := by have : (k : Int) < l.length := hlt; omega
      have h2 := (hs k hlt).2
      have c44 := C44 (l := (l.getD k tk0).a) (m := (l.getD k tk0).a) (by omega)
      rw [decide_eq_true rfl] at c44
      (repeat' first | (refine Owe.same ?_; first | refine Owe.o ?_ | refine Owe.mk ?_ ?_) | (refine Fork.same ?_; (first | refine fkY ?_ | refine fkF ?_ | ((first | refine fkD ?_ ?_ | refine fkN ?_ ?_ | refine fkM ?_ ?_) <;> (intro h; try (exfalso; omega))))) | ((first | refine OpsL.same ?_ | refine OpsDL.same ?_); first | refine oK c44 rfl rfl rfl ?_) | refine MvQ.stay ?_)
      refine again (k + 1) [] hlt (by omega) ?_
      (refine qis ?_ ?_ <;> (repeat' first | exact rfl | (refine qS ?_; constructor)))
    · (repeat' first | (refine Owe.same ?_; first | refine Owe.o ?_ | refine Owe.mk ?_ ?_) | (refine Fork.same ?_; (first | refine fkD ?_ ?_ | refine fkN ?_ ?_ | refine fkM ?_ ?_) <;> (intro h; try (exfalso; omega))) | refine MvQ.stay ?_)
      (refine rqK rfl ?_; (repeat' first | exact rfl | (refine qS ?_; constructor)))
def mkT (w : By) (n : List Int) : Tk := ⟨bs w, n.getD 0 0, n.getD 1 0, n.getD 2 0, n.getD 3 0, n.getD 4 0, n.getD 5 0, n.getD 6 0, n.drop 7⟩
def tkV (w : By) (r : List By) : Option Tk := match naL 6 r with
  | some n => if 7 ≤ n.length ∧ w ≠ [] then some (mkT w n) else none
  | none => none
def tkP (p : By) : Option Tk := match cutG 32 [] p with
  | w :: r => tkV w r
  | [] => none
def ptV (W : List By) : List Tk × Int := match alL tkP W with
  | none => ([], 7)
  | some l => if (tsE l).2 = 0 then (l, 0) else ([], (tsE l).2)
def ptE (s : By) : List Tk × Int := if 60000 < s.length then ([], 8) else if s = [] then ([], 0) else ptV (cutG 59 [] s)
theorem tkV_no {w : By} {r : List By} (h : naL 6 r = none) : tkV w r = none := by unfold tkV; rw [h]
theorem tkV_sm {w : By} {r : List By} {n : List Int} (h : naL 6 r = some n) (h2 : ¬ (7 ≤ n.length ∧ w ≠ [])) : tkV w r = none := by unfold tkV; rw [h]; exact if_neg h2
theorem tkV_ok {w : By} {r : List By} {n : List Int} (h : naL 6 r = some n) (h2 : 7 ≤ n.length ∧ w ≠ []) : tkV w r = some (mkT w n) := by unfold tkV; rw [h]; exact if_pos h2
theorem tkP_of {p w : By} {r : List By} (h : cutG 32 [] p = w :: r) : tkP p = tkV w r := by unfold tkP; rw [h]
theorem drop7 (n : List Int) : (D.sl 1 (n.length - 7) fun i => r1 (n.getD (7 + i) 0)) = intsD (n.drop 7) := by
  show _ = D.sl 1 (n.drop 7).length fun i => r1 ((n.drop 7).getD i 0)
  rw [List.length_drop]
  congr 1
  funext i
  rw [List.getD_eq_getElem?_getD, List.getD_eq_getElem?_getD, List.getElem?_drop]
theorem tkP_sm {s : By} (hs : s.length ≤ 100000) {t : Tk} (h : tkP s = some t) : t.n.size ≤ 1000000 ∧ t.a.length ≤ 1000000 := by
  unfold tkP at h
  split at h
  · rename_i w r hw
    unfold tkV at h
    split at h
    · rename_i n hn
      split at h
      · cases h
        have h1 := hPc (s := s) (c := 32) (by omega)
        rw [hw] at h1
        have h2 := alL_len hn
        have h3 := h1.2 w (by simp)
        have h4 := h1.1
        rw [List.length_cons] at h4
        refine ⟨by show (bs w).size ≤ _; rw [bs_size]; exact h3, by show (n.drop 7).length ≤ _; rw [List.length_drop]; omega⟩
      · cases h
    · cases h
  · cases h
theorem alL_mem {α : Type} {f : By → Option α} {p : α → Prop} : ∀ {W : List By} {l : List α}, alL f W = some l → (∀ x ∈ W, ∀ a, f x = some a → p a) → ∀ a ∈ l, p a
  | [], l, h, hp, a, ha => by cases h; cases ha
  | x :: W, l, h, hp, a, ha => by
    rw [alL] at h
    split at h
    · rename_i n m hn hm
      cases h
      rcases List.mem_cons.1 ha with rfl | ha
      · exact hp x (by simp) _ hn
      · exact alL_mem hm (fun y hy => hp y (List.mem_cons_of_mem _ hy)) a ha
    · cases h
theorem ts_sm {s : By} (hs : s.length ≤ 100000) {W : List By} {l : List Tk} (hW : ∀ x ∈ W, x.length ≤ 100000) (h : alL tkP W = some l) : TkSm l := fun i hi =>
  alL_mem h (fun x hx a ha => tkP_sm (hW x hx) ha) _ (getD_mem tk0 hi)
theorem naL_nil : naL 6 (cutG 32 [] []) = none := rfl
theorem pt_bad {s w : By} {dn rr : List By} (h : cutG 59 [] s = dn ++ w :: rr) (hw : tkP w = none) : ptV (cutG 59 [] s) = ([], 7) := by
  unfold ptV; rw [h, alL_bad hw]
theorem rowT (a : By) (n : List Int) : ([svD a, dI (n.getD 0 0), dI (n.getD 1 0), dI (n.getD 2 0), dI (n.getD 3 0), dI (n.getD 4 0), dI (n.getD 5 0), dI (n.getD 6 0), D.sl 1 (n.length - 7) fun i => r1 (n.getD (7 + i) 0)] : List D) = tkr (mkT a n) := by
  rw [drop7]; rfl
theorem tk_app {acc : List Tk} {a : By} {n : List Int} : CEq (.d (.sl 9 (acc.length + 1) fun i => if i < acc.length then tkr (acc.getD i tk0) else [[svD a, dI (n.getD 0 0), dI (n.getD 1 0), dI (n.getD 2 0), dI (n.getD 3 0), dI (n.getD 4 0), dI (n.getD 5 0), dI (n.getD 6 0), D.sl 1 (n.length - 7) fun i => r1 (n.getD (7 + i) 0)]].getD (i - acc.length) [])) (tks (acc ++ [mkT a n])) := by
  rw [rowT]
  refine CEq.sl (by rw [List.length_append]; rfl) fun i hi => ?_
  by_cases h : i < acc.length
  · rw [if_pos h, List.getD_eq_getElem?_getD (l := acc ++ _), List.getElem?_append_left h, ← List.getD_eq_getElem?_getD]
  · have : i = acc.length := by omega
    subst this
    rw [if_neg h, Nat.sub_self, List.getD_eq_getElem?_getD (l := acc ++ _), List.getElem?_append_right (Nat.le_refl _), Nat.sub_self]; rfl
theorem C33 {s : By} : s.length ≤ 100000 → PFD Tryz.prog 33 [sv s] (.tup [.c (tks (ptE s).1), vi .i64 (ptE s).2]) := fun hs => by
  have hz : (bs s).size = s.length := bs_size s
  by_cases hb : 60000 < s.length
  · rw [show ptE s = ([], 8) by unfold ptE; rw [if_pos hb]]
    refine pi2 fn33 ?_
    (repeat' first | (refine Owe.same ?_; first | refine Owe.o ?_ | refine Owe.mk ?_ ?_) | (refine Fork.same ?_; (first | refine fkD ?_ ?_ | refine fkN ?_ ?_ | refine fkM ?_ ?_) <;> (intro h; try (exfalso; omega))) | refine MvQ.stay ?_)
    (refine rqK rfl ?_; (repeat' first | exact rfl | (refine qS ?_; constructor)))
  by_cases h0 : s = []
  · rw [show ptE s = ([], 0) by unfold ptE; rw [if_neg hb, if_pos h0]]
    subst h0
    refine pi2 fn33 ?_
    (repeat' first | (refine Owe.same ?_; first | refine Owe.o ?_ | refine Owe.mk ?_ ?_) | (refine Fork.same ?_; (first | refine fkD ?_ ?_ | refine fkN ?_ ?_ | refine fkM ?_ ?_) <;> (intro h; try (exfalso; omega))) | refine MvQ.stay ?_)
    · (refine rqK rfl ?_; (repeat' first | exact rfl | (refine qS ?_; constructor)))
    · rename_i h; exact absurd rfl h
  have hne : ¬ (bs s).data.toList = (ByteArray.mk #[]).data.toList := fun h => h0 (by simpa [bs] using h)
  rw [show ptE s = ptV (cutG 59 [] s) by unfold ptE; rw [if_neg hb, if_neg h0]]
  refine pi2 fn33 ?_
  (repeat' first | (refine Owe.same ?_; first | refine Owe.o ?_ | refine Owe.mk ?_ ?_) | (refine Fork.same ?_; (first | refine fkY ?_ | refine fkF ?_ | ((first | refine fkD ?_ ?_ | refine fkN ?_ ?_ | refine fkM ?_ ?_) <;> (intro h; try (exfalso; omega))))) | ((first | refine OpsL.same ?_ | refine OpsDL.same ?_); first | refine oK C44 rfl rfl rfl ?_) | refine MvQ.stay ?_)
  refine Ops.cs rfl rfl (CallS.of fn110 rfl ?_)
  (repeat' first | (refine Owe.same ?_; first | refine Owe.o ?_ | refine Owe.mk ?_ ?_) | (refine Fork.same ?_; (first | refine fkD ?_ ?_ | refine fkN ?_ ?_ | refine fkM ?_ ?_) <;> intro h) | refine MvQ.stay ?_)
  refine Ops.cs rfl rfl (CallS.of fn197 rfl ?_)
  (repeat' first | (refine Owe.same ?_; first | refine Owe.o ?_ | refine Owe.mk ?_ ?_) | (refine Fork.same ?_; (first | refine fkD ?_ ?_ | refine fkN ?_ ?_ | refine fkM ?_ ?_) <;> intro h) | refine MvQ.stay ?_)
  refine Sat.keep [2, 3, 4, 20] ?_
  refine Sat.rf rfl rfl (CallS.of fn255 rfl ?_)
  (repeat' first | (refine Owe.same ?_; first | refine Owe.o ?_ | refine Owe.mk ?_ ?_) | (refine Fork.same ?_; (first | refine fkD ?_ ?_ | refine fkN ?_ ?_ | refine fkM ?_ ?_) <;> intro h) | refine MvQ.stay ?_)
  · exact absurd h (by decide)
  refine Sat.nilB 2 0 182 9 (fun i => tkr (([] : List Tk).getD i tk0)) rfl rfl ?_
  have hcx : ∀ x ∈ cutG 59 [] s, x.length ≤ 100000 := fun x hx => by have := cut_len x hx; simp at this; omega
  refine Sat.lp (fun st : List Tk × By => ⟨[(0, .c (.yd 6)), (1, .c (.bp 4 0)), (2, .c (.bp 3 0)), (3, .c (.bp 5 0))],
      [(0, .box [.d (.v (.slice none 0 0))]), (1, .box [int 0]), (2, .box [.ms 7 st.1.length]), (3, .box [.d (svD st.2)]), (4, .box [.d (.v (.string ⟨#[59]⟩))]), (5, .box [int 0]),
       (6, .lp [(2, .c (.bp 0 0)), (3, .c (.bp 1 0)), (4, .c (.bp 2 0)), (20, .c (.fn 255 [4, 3, 5]))] .ready none (RR Tryz.prog 78 [21] ra33 rb33)), (7, rowv 182 9 tkr tk0 st.1)], 8⟩)
    (fun st : List Tk × By => st.1.length + st.2.length ≤ 100000 ∧ ∃ dn, cutG 59 [] s = dn ++ cutG 59 [] st.2 ∧ alL tkP dn = some st.1) (fun st : List Tk × By => st.2.length) ([], s) [7] ⟨by simpa using hs, [], rfl, rfl⟩ ?_ ?_
  · (refine qis ?_ ?_ <;> (repeat' first | exact rfl | (refine qS ?_; constructor)))
  · rintro ⟨acc, rest⟩ ⟨hlen, dn, hcut, hdn⟩
    simp only at hlen hcut hdn
    rcases ix_cases 59 rest with ⟨hi, hm⟩ | ⟨p, r, rfl, hm, hi⟩
    · have h124 := C249 (l := rest) (c := 59)
      rw [hi] at h124
      (repeat' first | (refine Owe.same ?_; first | refine Owe.o ?_ | refine Owe.mk ?_ ?_) | (refine Fork.same ?_; (first | refine fkD ?_ ?_ | refine fkN ?_ ?_ | refine fkM ?_ ?_) <;> intro h) | ((first | refine OpsL.same ?_ | refine OpsDL.same ?_); first | refine pK h124 rfl rfl ?_) | refine MvQ.stay ?_)
      · refine OpsL.as 50 (sv rest) (.refl _) ?_
        rcases ix_cases 32 rest with ⟨hi2, hm2⟩ | ⟨a, b, hab, hm2, hi2⟩
        · have c111 := C111m hm2
          have c112 := C112n naL_nil (by simp) (by decide)
          have hbt : tkP rest = none := by rw [tkP_of (show cutG 32 [] rest = [rest] by rw [cutG_miss hm2, List.nil_append])]; rfl
          refine Ops.yd rfl rfl rfl rfl rfl ?_
          (repeat' first | (refine Owe.same ?_; first | refine Owe.o ?_ | refine Owe.mk ?_ ?_) | (refine Fork.same ?_; (first | refine fkD ?_ ?_ | refine fkN ?_ ?_ | refine fkM ?_ ?_) <;> (intro h; try (exfalso; omega))) | refine MvQ.stay ?_)
          refine And.intro rfl (Exists.intro _ (And.intro rfl ?_))
          (repeat' first | (refine Owe.same ?_; first | refine Owe.o ?_ | refine Owe.mk ?_ ?_) | (refine Fork.same ?_; (first | refine fkY ?_ | refine fkF ?_ | ((first | refine fkD ?_ ?_ | refine fkN ?_ ?_ | refine fkM ?_ ?_) <;> (intro h; try (exfalso; omega))))) | ((first | refine OpsL.same ?_ | refine OpsDL.same ?_); first | refine oK c111 rfl rfl rfl ?_ | refine oK c112 rfl rfl rfl ?_) | refine MvQ.stay ?_)
          refine Exists.intro _ (Exists.intro _ (Exists.intro _ (And.intro rfl ?_)))
          (repeat' first | (refine Owe.same ?_; first | refine Owe.o ?_ | refine Owe.mk ?_ ?_) | (refine Fork.same ?_; (first | refine fkD ?_ ?_ | refine fkN ?_ ?_ | refine fkM ?_ ?_) <;> (intro h; try (exfalso; omega))) | refine MvQ.stay ?_)
          rw [pt_bad (rr := []) (hcut.trans (by rw [cutG_miss hm, List.nil_append])) hbt]
          (refine rqK rfl ?_; (repeat' first | exact rfl | (refine qS ?_; constructor)))
        · have hlq : a.length + b.length + 1 = rest.length := by rw [hab]; simp [Nat.add_assoc]
          have c111 := C111h (c := 32) (p := a) (r := b) hm2 (by omega)
          rw [← hab] at c111
          have htk : tkP rest = tkV a (cutG 32 [] b) := tkP_of (by rw [hab, cutG_hit hm2, List.nil_append])
          cases hn : naL 6 (cutG 32 [] b) with
          | none =>
            have c112 := C112n hn (by omega) (by decide)
            have hbt : tkP rest = none := htk.trans (tkV_no hn)
            refine Ops.yd rfl rfl rfl rfl rfl ?_
            (repeat' first | (refine Owe.same ?_; first | refine Owe.o ?_ | refine Owe.mk ?_ ?_) | (refine Fork.same ?_; (first | refine fkD ?_ ?_ | refine fkN ?_ ?_ | refine fkM ?_ ?_) <;> (intro h; try (exfalso; omega))) | refine MvQ.stay ?_)
            refine And.intro rfl (Exists.intro _ (And.intro rfl ?_))
            (repeat' first | (refine Owe.same ?_; first | refine Owe.o ?_ | refine Owe.mk ?_ ?_) | (refine Fork.same ?_; (first | refine fkY ?_ | refine fkF ?_ | ((first | refine fkD ?_ ?_ | refine fkN ?_ ?_ | refine fkM ?_ ?_) <;> (intro h; try (exfalso; omega))))) | ((first | refine OpsL.same ?_ | refine OpsDL.same ?_); first | refine oK c111 rfl rfl rfl ?_ | refine oK c112 rfl rfl rfl ?_) | refine MvQ.stay ?_)
            refine Exists.intro _ (Exists.intro _ (Exists.intro _ (And.intro rfl ?_)))
            (repeat' first | (refine Owe.same ?_; first | refine Owe.o ?_ | refine Owe.mk ?_ ?_) | (refine Fork.same ?_; (first | refine fkD ?_ ?_ | refine fkN ?_ ?_ | refine fkM ?_ ?_) <;> (intro h; try (exfalso; omega))) | refine MvQ.stay ?_)
            rw [pt_bad (rr := []) (hcut.trans (by rw [cutG_miss hm, List.nil_append])) hbt]
            (refine rqK rfl ?_; (repeat' first | exact rfl | (refine qS ?_; constructor)))
          | some n =>
            have c112 := C112y hn (by omega) (by decide)
            by_cases hok : 7 ≤ n.length ∧ a ≠ []
            · have hbt : tkP rest = some (mkT a n) := htk.trans (tkV_ok hn hok)
              have hne2 : ¬ (bs a).data.toList = (ByteArray.mk #[]).data.toList := fun h => hok.2 (by simpa [bs] using h)
              have hcc := cut_count (c := 32) (l := b) (acc := [])
              have hnl : n.length ≤ 1000001 := by have h1 := alL_len hn; omega
              have h7 := hok.1
              clear hcc hn htk
              refine Ops.yd rfl rfl rfl rfl rfl ?_
              (repeat' first | (refine Owe.same ?_; first | refine Owe.o ?_ | refine Owe.mk ?_ ?_) | (refine Fork.same ?_; (first | refine fkD ?_ ?_ | refine fkN ?_ ?_ | refine fkM ?_ ?_) <;> (intro h; try (exfalso; omega))) | refine MvQ.stay ?_)
              refine And.intro rfl (Exists.intro _ (And.intro rfl ?_))
              (repeat' first | (refine Owe.same ?_; first | refine Owe.o ?_ | refine Owe.mk ?_ ?_) | (refine Fork.same ?_; (first | refine fkY ?_ | refine fkF ?_ | ((first | refine fkD ?_ ?_ | refine fkN ?_ ?_ | refine fkM ?_ ?_) <;> (intro h; try (exfalso; omega))))) | ((first | refine OpsL.same ?_ | refine OpsDL.same ?_); first | refine oK c111 rfl rfl rfl ?_ | refine oK c112 rfl rfl rfl ?_) | refine MvQ.stay ?_)
              refine Exists.intro _ (Exists.intro _ (Exists.intro _ (And.intro rfl ?_)))
              (repeat' first | (refine Owe.same ?_; first | refine Owe.o ?_ | refine Owe.mk ?_ ?_) | (refine Fork.same ?_; (first | refine fkD ?_ ?_ | refine fkN ?_ ?_ | refine fkM ?_ ?_) <;> (intro h; try (exfalso; omega))) | refine MvQ.stay ?_)
              have e : alL tkP (cutG 59 [] s) = some (acc ++ [mkT a n]) := by rw [hcut, cutG_miss hm, List.nil_append, alL_app hdn, hbt]
              have hsm := ts_sm hs hcx e
              have hl2 : (acc ++ [mkT a n]).length ≤ 1000000 := by rw [List.length_append]; show acc.length + 1 ≤ _; omega
              have c113 := C113 (l := acc ++ [mkT a n]) ⟨hl2, hsm⟩
              refine OpsL.frz 70 _ rfl rfl (Nat.le_refl _) ?_
              refine OpsL.as 70 (.c (tks (acc ++ [mkT a n]))) ?_ ?_
              · exact VEq.c _ _ (tk_app)
              by_cases he : (tsE (acc ++ [mkT a n])).2 = 0
              · rw [show ptV (cutG 59 [] s) = (acc ++ [mkT a n], 0) by unfold ptV; rw [e]; exact if_pos he]
                rw [he] at c113
                refine OpsL.frzX 2 0 30 rfl rfl rfl (Nat.le_refl _) ?_
                (repeat' first | (refine Owe.same ?_; first | refine Owe.o ?_ | refine Owe.mk ?_ ?_) | (refine Fork.same ?_; (first | refine fkY ?_ | refine fkF ?_ | ((first | refine fkD ?_ ?_ | refine fkN ?_ ?_ | refine fkM ?_ ?_) <;> (intro h; try (exfalso; omega))))) | ((first | refine OpsL.same ?_ | refine OpsDL.same ?_); first | refine oK c113 rfl rfl rfl ?_) | refine MvQ.stay ?_)
                (refine rqK rfl ?_; (repeat' first | exact rfl | (refine qS ?_; constructor)))
                exact ⟨mkT a n, rowT a n, rfl⟩
              · rw [show ptV (cutG 59 [] s) = ([], (tsE (acc ++ [mkT a n])).2) by unfold ptV; rw [e]; exact if_neg he]
                generalize (tsE (acc ++ [mkT a n])).2 = e1 at *
                (repeat' first | (refine Owe.same ?_; first | refine Owe.o ?_ | refine Owe.mk ?_ ?_) | (refine Fork.same ?_; (first | refine fkY ?_ | refine fkF ?_ | ((first | refine fkD ?_ ?_ | refine fkN ?_ ?_ | refine fkM ?_ ?_) <;> (intro h; try (exfalso; omega))))) | ((first | refine OpsL.same ?_ | refine OpsDL.same ?_); first | refine oK c113 rfl rfl rfl ?_) | refine MvQ.stay ?_)
                (refine rqK rfl ?_; (repeat' first | exact rfl | (refine qS ?_; constructor)))
            · have hbt : tkP rest = none := htk.trans (tkV_sm hn hok)
              by_cases h7 : 7 ≤ n.length
              · have hw0 : a = [] := by
                  by_cases hw : a = []
                  · exact hw
                  · exact absurd ⟨h7, hw⟩ hok
                have he2 : (bs a).data.toList = (ByteArray.mk #[]).data.toList := by rw [hw0]
                refine Ops.yd rfl rfl rfl rfl rfl ?_
                (repeat' first | (refine Owe.same ?_; first | refine Owe.o ?_ | refine Owe.mk ?_ ?_) | (refine Fork.same ?_; (first | refine fkD ?_ ?_ | refine fkN ?_ ?_ | refine fkM ?_ ?_) <;> (intro h; try (exfalso; omega))) | refine MvQ.stay ?_)
                refine And.intro rfl (Exists.intro _ (And.intro rfl ?_))
                (repeat' first | (refine Owe.same ?_; first | refine Owe.o ?_ | refine Owe.mk ?_ ?_) | (refine Fork.same ?_; (first | refine fkY ?_ | refine fkF ?_ | ((first | refine fkD ?_ ?_ | refine fkN ?_ ?_ | refine fkM ?_ ?_) <;> (intro h; try (exfalso; omega))))) | ((first | refine OpsL.same ?_ | refine OpsDL.same ?_); first | refine oK c111 rfl rfl rfl ?_ | refine oK c112 rfl rfl rfl ?_) | refine MvQ.stay ?_)
                refine Exists.intro _ (Exists.intro _ (Exists.intro _ (And.intro rfl ?_)))
                (repeat' first | (refine Owe.same ?_; first | refine Owe.o ?_ | refine Owe.mk ?_ ?_) | (refine Fork.same ?_; (first | refine fkD ?_ ?_ | refine fkN ?_ ?_ | refine fkM ?_ ?_) <;> (intro h; try (exfalso; omega))) | refine MvQ.stay ?_)
                rw [pt_bad (rr := []) (hcut.trans (by rw [cutG_miss hm, List.nil_append])) hbt]
                (refine rqK rfl ?_; (repeat' first | exact rfl | (refine qS ?_; constructor)))
              · have hem : (bs a).data.toList = (ByteArray.mk #[]).data.toList ∨ ¬ (bs a).data.toList = (ByteArray.mk #[]).data.toList := Classical.em _
                rcases hem with hem | hem
                · refine Ops.yd rfl rfl rfl rfl rfl ?_
                  (repeat' first | (refine Owe.same ?_; first | refine Owe.o ?_ | refine Owe.mk ?_ ?_) | (refine Fork.same ?_; (first | refine fkD ?_ ?_ | refine fkN ?_ ?_ | refine fkM ?_ ?_) <;> (intro h; try (exfalso; omega))) | refine MvQ.stay ?_)
                  refine And.intro rfl (Exists.intro _ (And.intro rfl ?_))
                  (repeat' first | (refine Owe.same ?_; first | refine Owe.o ?_ | refine Owe.mk ?_ ?_) | (refine Fork.same ?_; (first | refine fkY ?_ | refine fkF ?_ | ((first | refine fkD ?_ ?_ | refine fkN ?_ ?_ | refine fkM ?_ ?_) <;> (intro h; try (exfalso; omega))))) | ((first | refine OpsL.same ?_ | refine OpsDL.same ?_); first | refine oK c111 rfl rfl rfl ?_ | refine oK c112 rfl rfl rfl ?_) | refine MvQ.stay ?_)
                  refine Exists.intro _ (Exists.intro _ (Exists.intro _ (And.intro rfl ?_)))
                  (repeat' first | (refine Owe.same ?_; first | refine Owe.o ?_ | refine Owe.mk ?_ ?_) | (refine Fork.same ?_; (first | refine fkD ?_ ?_ | refine fkN ?_ ?_ | refine fkM ?_ ?_) <;> (intro h; try (exfalso; omega))) | refine MvQ.stay ?_)
                  rw [pt_bad (rr := []) (hcut.trans (by rw [cutG_miss hm, List.nil_append])) hbt]
                  (refine rqK rfl ?_; (repeat' first | exact rfl | (refine qS ?_; constructor)))
                · refine Ops.yd rfl rfl rfl rfl rfl ?_
                  (repeat' first | (refine Owe.same ?_; first | refine Owe.o ?_ | refine Owe.mk ?_ ?_) | (refine Fork.same ?_; (first | refine fkD ?_ ?_ | refine fkN ?_ ?_ | refine fkM ?_ ?_) <;> (intro h; try (exfalso; omega))) | refine MvQ.stay ?_)
                  refine And.intro rfl (Exists.intro _ (And.intro rfl ?_))
                  (repeat' first | (refine Owe.same ?_; first | refine Owe.o ?_ | refine Owe.mk ?_ ?_) | (refine Fork.same ?_; (first | refine fkY ?_ | refine fkF ?_ | ((first | refine fkD ?_ ?_ | refine fkN ?_ ?_ | refine fkM ?_ ?_) <;> (intro h; try (exfalso; omega))))) | ((first | refine OpsL.same ?_ | refine OpsDL.same ?_); first | refine oK c111 rfl rfl rfl ?_ | refine oK c112 rfl rfl rfl ?_) | refine MvQ.stay ?_)
                  refine Exists.intro _ (Exists.intro _ (Exists.intro _ (And.intro rfl ?_)))
                  (repeat' first | (refine Owe.same ?_; first | refine Owe.o ?_ | refine Owe.mk ?_ ?_) | (refine Fork.same ?_; (first | refine fkD ?_ ?_ | refine fkN ?_ ?_ | refine fkM ?_ ?_) <;> (intro h; try (exfalso; omega))) | refine MvQ.stay ?_)
                  rw [pt_bad (rr := []) (hcut.trans (by rw [cutG_miss hm, List.nil_append])) hbt]
                  (refine rqK rfl ?_; (repeat' first | exact rfl | (refine qS ?_; constructor)))
      · exact absurd (by decide) h
    · have h124 := C249 (l := p ++ 59 :: r) (c := 59)
      rw [hi] at h124
      have hsz : (bs (p ++ 59 :: r)).size = p.length + r.length + 1 := by rw [bs_size]; simp; omega
      have hs1 : (ByteArray.mk #[59]).size = 1 := rfl
      (repeat' first | (refine Owe.same ?_; first | refine Owe.o ?_ | refine Owe.mk ?_ ?_) | (refine Fork.same ?_; (first | refine fkD ?_ ?_ | refine fkN ?_ ?_ | refine fkM ?_ ?_) <;> intro h) | ((first | refine OpsL.same ?_ | refine OpsDL.same ?_); first | refine pK h124 rfl rfl ?_) | refine MvQ.stay ?_)
      · omega
      · rw [show (bs (acc, p ++ 59 :: r).snd).size = _ from hsz]
        have hlp : p.length + r.length ≤ 1000000 := by simp at hlen; omega
        exact ob
      refine OpsL.as 40 (sv p) ?_ ?_
      · refine VEq.str ?_
        rw [cutB_bs]; simp
      have hlp : p.length + r.length ≤ 100000 := by simp at hlen; omega
      rcases ix_cases 32 p with ⟨hi2, hm2⟩ | ⟨a, b, hab, hm2, hi2⟩
      · have c111 := C111m hm2
        have c112 := C112n naL_nil (by simp) (by decide)
        have hbt : tkP p = none := by rw [tkP_of (show cutG 32 [] p = [p] by rw [cutG_miss hm2, List.nil_append])]; rfl
        refine Ops.yd rfl rfl rfl rfl rfl ?_
        (repeat' first | (refine Owe.same ?_; first | refine Owe.o ?_ | refine Owe.mk ?_ ?_) | (refine Fork.same ?_; (first | refine fkD ?_ ?_ | refine fkN ?_ ?_ | refine fkM ?_ ?_) <;> (intro h; try (exfalso; omega))) | refine MvQ.stay ?_)
        refine And.intro rfl (Exists.intro _ (And.intro rfl ?_))
        (repeat' first | (refine Owe.same ?_; first | refine Owe.o ?_ | refine Owe.mk ?_ ?_) | (refine Fork.same ?_; (first | refine fkY ?_ | refine fkF ?_ | ((first | refine fkD ?_ ?_ | refine fkN ?_ ?_ | refine fkM ?_ ?_) <;> (intro h; try (exfalso; omega))))) | ((first | refine OpsL.same ?_ | refine OpsDL.same ?_); first | refine oK c111 rfl rfl rfl ?_ | refine oK c112 rfl rfl rfl ?_) | refine MvQ.stay ?_)
        refine Exists.intro _ (Exists.intro _ (Exists.intro _ (And.intro rfl ?_)))
        (repeat' first | (refine Owe.same ?_; first | refine Owe.o ?_ | refine Owe.mk ?_ ?_) | (refine Fork.same ?_; (first | refine fkD ?_ ?_ | refine fkN ?_ ?_ | refine fkM ?_ ?_) <;> (intro h; try (exfalso; omega))) | refine MvQ.stay ?_)
        rw [pt_bad (hcut.trans (by rw [cutG_hit hm, List.nil_append])) hbt]
        (refine rqK rfl ?_; (repeat' first | exact rfl | (refine qS ?_; constructor)))
      · have hlq : a.length + b.length + 1 = p.length := by rw [hab]; simp [Nat.add_assoc]
        have c111 := C111h (c := 32) (p := a) (r := b) hm2 (by omega)
        rw [← hab] at c111
        have htk : tkP p = tkV a (cutG 32 [] b) := tkP_of (by rw [hab, cutG_hit hm2, List.nil_append])
        cases hn : naL 6 (cutG 32 [] b) with
        | none =>
          have c112 := C112n hn (by omega) (by decide)
          have hbt : tkP p = none := htk.trans (tkV_no hn)
          refine Ops.yd rfl rfl rfl rfl rfl ?_
          (repeat' first | (refine Owe.same ?_; first | refine Owe.o ?_ | refine Owe.mk ?_ ?_) | (refine Fork.same ?_; (first | refine fkD ?_ ?_ | refine fkN ?_ ?_ | refine fkM ?_ ?_) <;> (intro h; try (exfalso; omega))) | refine MvQ.stay ?_)
          refine And.intro rfl (Exists.intro _ (And.intro rfl ?_))
          (repeat' first | (refine Owe.same ?_; first | refine Owe.o ?_ | refine Owe.mk ?_ ?_) | (refine Fork.same ?_; (first | refine fkY ?_ | refine fkF ?_ | ((first | refine fkD ?_ ?_ | refine fkN ?_ ?_ | refine fkM ?_ ?_) <;> (intro h; try (exfalso; omega))))) | ((first | refine OpsL.same ?_ | refine OpsDL.same ?_); first | refine oK c111 rfl rfl rfl ?_ | refine oK c112 rfl rfl rfl ?_) | refine MvQ.stay ?_)
          refine Exists.intro _ (Exists.intro _ (Exists.intro _ (And.intro rfl ?_)))
          (repeat' first | (refine Owe.same ?_; first | refine Owe.o ?_ | refine Owe.mk ?_ ?_) | (refine Fork.same ?_; (first | refine fkD ?_ ?_ | refine fkN ?_ ?_ | refine fkM ?_ ?_) <;> (intro h; try (exfalso; omega))) | refine MvQ.stay ?_)
          rw [pt_bad (hcut.trans (by rw [cutG_hit hm, List.nil_append])) hbt]
          (refine rqK rfl ?_; (repeat' first | exact rfl | (refine qS ?_; constructor)))
        | some n =>
          have c112 := C112y hn (by omega) (by decide)
          by_cases hok : 7 ≤ n.length ∧ a ≠ []
          · have hbt : tkP p = some (mkT a n) := htk.trans (tkV_ok hn hok)
            have hne2 : ¬ (bs a).data.toList = (ByteArray.mk #[]).data.toList := fun h => hok.2 (by simpa [bs] using h)
            have hcc := cut_count (c := 32) (l := b) (acc := [])
            have hnl : n.length ≤ 1000001 := by have h1 := alL_len hn; omega
            have h7 := hok.1
            clear hcc hn htk
            refine Ops.yd rfl rfl rfl rfl rfl ?_
            (repeat' first | (refine Owe.same ?_; first | refine Owe.o ?_ | refine Owe.mk ?_ ?_) | (refine Fork.same ?_; (first | refine fkD ?_ ?_ | refine fkN ?_ ?_ | refine fkM ?_ ?_) <;> (intro h; try (exfalso; omega))) | refine MvQ.stay ?_)
            refine And.intro rfl (Exists.intro _ (And.intro rfl ?_))
            (repeat' first | (refine Owe.same ?_; first | refine Owe.o ?_ | refine Owe.mk ?_ ?_) | (refine Fork.same ?_; (first | refine fkY ?_ | refine fkF ?_ | ((first | refine fkD ?_ ?_ | refine fkN ?_ ?_ | refine fkM ?_ ?_) <;> (intro h; try (exfalso; omega))))) | ((first | refine OpsL.same ?_ | refine OpsDL.same ?_); first | refine oK c111 rfl rfl rfl ?_ | refine oK c112 rfl rfl rfl ?_) | refine MvQ.stay ?_)
            refine Exists.intro _ (Exists.intro _ (Exists.intro _ (And.intro rfl ?_)))
            (repeat' first | (refine Owe.same ?_; first | refine Owe.o ?_ | refine Owe.mk ?_ ?_) | (refine Fork.same ?_; (first | refine fkD ?_ ?_ | refine fkN ?_ ?_ | refine fkM ?_ ?_) <;> (intro h; try (exfalso; omega))) | refine MvQ.stay ?_)
            refine again (acc ++ [mkT a n], r) [30] ⟨by simp at hlen ⊢; omega, dn ++ [p], by rw [hcut, cutG_hit hm]; simp, by rw [alL_app hdn, hbt]⟩ (by simp; omega) ?_
            (refine qis ?_ ?_ <;> (repeat' first | exact rfl | (refine qS ?_; constructor)))
            · simp
            · refine CEq.str ?_
              have e : ((p.length : Int) + ((ByteArray.mk #[59]).size : Nat)).toNat = p.length + 1 := by rw [hs1]; omega
              rw [e]
              simp [bs]
            · exact ⟨mkT a n, rowT a n, rfl⟩
          · have hbt : tkP p = none := htk.trans (tkV_sm hn hok)
            by_cases h7 : 7 ≤ n.length
            · have hw0 : a = [] := by
                by_cases hw : a = []
                · exact hw
                · exact absurd ⟨h7, hw⟩ hok
              have he2 : (bs a).data.toList = (ByteArray.mk #[]).data.toList := by rw [hw0]
              refine Ops.yd rfl rfl rfl rfl rfl ?_
              (repeat' first | (refine Owe.same ?_; first | refine Owe.o ?_ | refine Owe.mk ?_ ?_) | (refine Fork.same ?_; (first | refine fkD ?_ ?_ | refine fkN ?_ ?_ | refine fkM ?_ ?_) <;> (intro h; try (exfalso; omega))) | refine MvQ.stay ?_)
              refine And.intro rfl (Exists.intro _ (And.intro rfl ?_))
              (repeat' first | (refine Owe.same ?_; first | refine Owe.o ?_ | refine Owe.mk ?_ ?_) | (refine Fork.same ?_; (first | refine fkY ?_ | refine fkF ?_ | ((first | refine fkD ?_ ?_ | refine fkN ?_ ?_ | refine fkM ?_ ?_) <;> (intro h; try (exfalso; omega))))) | ((first | refine OpsL.same ?_ | refine OpsDL.same ?_); first | refine oK c111 rfl rfl rfl ?_ | refine oK c112 rfl rfl rfl ?_) | refine MvQ.stay ?_)
              refine Exists.intro _ (Exists.intro _ (Exists.intro _ (And.intro rfl ?_)))
              (repeat' first | (refine Owe.same ?_; first | refine Owe.o ?_ | refine Owe.mk ?_ ?_) | (refine Fork.same ?_; (first | refine fkD ?_ ?_ | refine fkN ?_ ?_ | refine fkM ?_ ?_) <;> (intro h; try (exfalso; omega))) | refine MvQ.stay ?_)
              rw [pt_bad (hcut.trans (by rw [cutG_hit hm, List.nil_append])) hbt]
              (refine rqK rfl ?_; (repeat' first | exact rfl | (refine qS ?_; constructor)))
            · have hem : (bs a).data.toList = (ByteArray.mk #[]).data.toList ∨ ¬ (bs a).data.toList = (ByteArray.mk #[]).data.toList := Classical.em _
              rcases hem with hem | hem
              · refine Ops.yd rfl rfl rfl rfl rfl ?_
                (repeat' first | (refine Owe.same ?_; first | refine Owe.o ?_ | refine Owe.mk ?_ ?_) | (refine Fork.same ?_; (first | refine fkD ?_ ?_ | refine fkN ?_ ?_ | refine fkM ?_ ?_) <;> (intro h; try (exfalso; omega))) | refine MvQ.stay ?_)
                refine And.intro rfl (Exists.intro _ (And.intro rfl ?_))
                (repeat' first | (refine Owe.same ?_; first | refine Owe.o ?_ | refine Owe.mk ?_ ?_) | (refine Fork.same ?_; (first | refine fkY ?_ | refine fkF ?_ | ((first | refine fkD ?_ ?_ | refine fkN ?_ ?_ | refine fkM ?_ ?_) <;> (intro h; try (exfalso; omega))))) | ((first | refine OpsL.same ?_ | refine OpsDL.same ?_); first | refine oK c111 rfl rfl rfl ?_ | refine oK c112 rfl rfl rfl ?_) | refine MvQ.stay ?_)
                refine Exists.intro _ (Exists.intro _ (Exists.intro _ (And.intro rfl ?_)))
                (repeat' first | (refine Owe.same ?_; first | refine Owe.o ?_ | refine Owe.mk ?_ ?_) | (refine Fork.same ?_; (first | refine fkD ?_ ?_ | refine fkN ?_ ?_ | refine fkM ?_ ?_) <;> (intro h; try (exfalso; omega))) | refine MvQ.stay ?_)
                rw [pt_bad (hcut.trans (by rw [cutG_hit hm, List.nil_append])) hbt]
                (refine rqK rfl ?_; (repeat' first | exact rfl | (refine qS ?_; constructor)))
              · refine Ops.yd rfl rfl rfl rfl rfl ?_
                (repeat' first | (refine Owe.same ?_; first | refine Owe.o ?_ | refine Owe.mk ?_ ?_) | (refine Fork.same ?_; (first | refine fkD ?_ ?_ | refine fkN ?_ ?_ | refine fkM ?_ ?_) <;> (intro h; try (exfalso; omega))) | refine MvQ.stay ?_)
                refine And.intro rfl (Exists.intro _ (And.intro rfl ?_))
                (repeat' first | (refine Owe.same ?_; first | refine Owe.o ?_ | refine Owe.mk ?_ ?_) | (refine Fork.same ?_; (first | refine fkY ?_ | refine fkF ?_ | ((first | refine fkD ?_ ?_ | refine fkN ?_ ?_ | refine fkM ?_ ?_) <;> (intro h; try (exfalso; omega))))) | ((first | refine OpsL.same ?_ | refine OpsDL.same ?_); first | refine oK c111 rfl rfl rfl ?_ | refine oK c112 rfl rfl rfl ?_) | refine MvQ.stay ?_)
                refine Exists.intro _ (Exists.intro _ (Exists.intro _ (And.intro rfl ?_)))
                (repeat' first | (refine Owe.same ?_; first | refine Owe.o ?_ | refine Owe.mk ?_ ?_) | (refine Fork.same ?_; (first | refine fkD ?_ ?_ | refine fkN ?_ ?_ | refine fkM ?_ ?_) <;> (intro h; try (exfalso; omega))) | refine MvQ.stay ?_)
                rw [pt_bad (hcut.trans (by rw [cutG_hit hm, List.nil_append])) hbt]
                (refine rqK rfl ?_; (repeat' first | exact rfl | (refine qS ?_; constructor)))
theorem dec_len_le : ∀ (k u : Nat), u < 10 ^ (k + 1) → (decDigits u).length ≤ k + 1
  | 0, u, h => by rw [decDigits_one (by simpa using h)]; simp
  | k + 1, u, h => by
    by_cases h1 : u < 10
    · rw [decDigits_one h1]; simp
    · rw [dec_big h1, List.length_append]
      have := dec_len_le k (u / 10) (by rw [Nat.pow_succ] at h; omega)
      simp; omega
theorem ntV_it {n : Int} (k : Nat) {d : Int} (hd : d ≤ 18) (hk : ((k + 1 : Nat) : Int) ≤ d) (h0 : 0 ≤ n) (h : n.natAbs < 10 ^ (k + 1)) : ntV d (itoa n) = some n :=
  ntV_some ((numV_iff hd).2 ⟨rfl, by have := dec_len_le k _ h; omega⟩) h0
theorem naL_wd {d : Int} {l : List Int} (h : ∀ n ∈ l, ntV d (itoa n) = some n) : naL d (wdL l) = some l := by
  have e : naL d (wdL l) = alL (ntV d) (l.map itoa) := rfl
  rw [e]; exact alL_map h
theorem no32 (n : Int) : (32 : UInt8) ∉ itoa n := itoa_no (by decide)
theorem cut_wd {l : List Int} (h : l ≠ []) : cutG 32 [] (wdS l) = wdL l := cut_jn (by simpa using h) (fun x hx => by
  obtain ⟨n, _, rfl⟩ := List.mem_map.1 hx
  exact no32 n)
theorem jn_no {c d : UInt8} (hcd : c ≠ d) : ∀ {l : List By}, (∀ x ∈ l, d ∉ x) → d ∉ jnG c l
  | [], _ => by simp [jnG]
  | [x], h => h x (by simp)
  | x :: y :: r, h => by
    rw [jn_cons (by simp), List.mem_append, List.mem_cons]
    intro hh
    rcases hh with h1 | h1 | h1
    · exact h x (by simp) h1
    · exact hcd h1.symm
    · exact jn_no hcd (fun z hz => h z (List.mem_cons_of_mem _ hz)) h1
theorem wd_no {c : UInt8} (hc : (32 : UInt8) ≠ c ∧ c ≠ 45 ∧ ¬ isDg c) (l : List Int) : c ∉ wdS l := jn_no hc.1 (fun x hx => by
  obtain ⟨n, _, rfl⟩ := List.mem_map.1 hx
  exact itoa_no hc.2)
theorem asc_len {l : List Int} {b : Nat} (h : (ascE l b).2 = 0) : (∀ n ∈ l, 0 ≤ n ∧ n ≤ (b : Int) - 1) := fun n hn => by
  obtain ⟨i, hi, rfl⟩ := List.getElem_of_mem hn
  rw [ascE, eachN_ok] at h
  have := h i hi
  rw [ascN, fst2, unl0 (by decide), List.getD_eq_getElem?_getD, List.getElem?_eq_getElem hi] at this
  exact this.1
theorem tsE_ok {l : List Tk} (h : (tsE l).2 = 0) : l.length ≤ 6 ∧ ∀ i, i < l.length → nmP (l.getD i tk0).n ∧ ∀ n ∈ tkN (l.getD i tk0), 0 ≤ n ∧ n ≤ 100000 := by
  have h8 : l.length ≤ 6 := by
    rw [tsE] at h
    split at h
    · cases h
    · omega
  have h9 : ∀ i, i < l.length → tkE l i = 0 := by
    rw [tsE, if_neg (by omega)] at h
    exact eachN_ok.1 h
  refine ⟨h8, fun i hi => ?_⟩
  have a1 := h9 i hi
  rw [tkE] at a1
  split at a1
  · rename_i a3
    rw [tkF, fst4, tksE, fst2, unl0 (by decide), unb_ok (by decide), unb_ok (by decide), unl0 (by decide), unl0 (by decide), Bool.and_eq_true, decide_eq_true_eq] at a3
    obtain ⟨b1, b2, b3, b4, b5⟩ := a3
    have b6 := oddI_f ((Bool.not_eq_true' _).mp b3.2)
    refine ⟨b1, fun n hn => ?_⟩
    have c0 : isN (l.getD i tk0).d := b6 0
    have c1 : isN (l.getD i tk0).w := b6 1
    have c2 : isN (l.getD i tk0).o := b6 2
    have c3 : isN (l.getD i tk0).v := b6 3
    have c4 := b3.1
    have c5 := b4.1
    have c6 := b4.2
    rw [tkN, List.mem_append] at hn
    rcases hn with hn | hn
    · simp only [isN, isT] at c0 c1 c2 c3 c5 c6
      simp only [List.mem_cons, List.not_mem_nil, or_false] at hn
      rcases hn with rfl | rfl | rfl | rfl | rfl | rfl | rfl <;> omega
    · have := asc_len a1 n hn
      omega
  · rename_i a3; exact absurd a1 a3
theorem nm_no {n : ByteArray} (h : nmP n) {c : UInt8} (hc : c = 32 ∨ c = 59) : c ∉ n.data.toList := fun hm => by
  obtain ⟨i, hi, he⟩ := List.getElem_of_mem hm
  have hl : n.data.toList.length = n.size := Array.length_toList
  have := h.1 i (by omega)
  have e : nmI n i = (c.toNat : Int) := by
    show ((n.data.toList.getD i 0).toNat : Int) = _
    rw [List.getD_eq_getElem?_getD, List.getElem?_eq_getElem hi, ← he]; rfl
  rw [e] at this
  rcases hc with rfl | rfl
  · have e2 : ((32 : UInt8).toNat : Int) = 32 := rfl
    rw [e2] at this
    simp only [chP] at this; omega
  · have e2 : ((59 : UInt8).toNat : Int) = 59 := rfl
    rw [e2] at this
    simp only [chP] at this; omega
theorem mkT_S (t : Tk) : mkT (tkB t) (tkN t) = t := by
  obtain ⟨n, p, d, w, o, v, lo, hi, a⟩ := t
  show Tk.mk (bs n.data.toList) p d w o v lo hi a = _
  rw [bs_eta]
theorem tkP_S {t : Tk} (h1 : nmP t.n) (h2 : ∀ n ∈ tkN t, 0 ≤ n ∧ n ≤ 100000) : tkP (tkS t) = some t := by
  have h32 := nm_no h1 (c := 32) (.inl rfl)
  have hl := tkN_len t
  have hc : cutG 32 [] (tkS t) = tkB t :: wdL (tkN t) := by
    rw [tkS, cutG_hit h32, cut_wd (fun e => by rw [e, List.length_nil] at hl; omega)]; rfl
  have hn : naL 6 (wdL (tkN t)) = some (tkN t) := naL_wd fun n hn => ntV_it 5 (by decide) (by decide) (h2 n hn).1 (show n.natAbs < 1000000 by have := h2 n hn; omega)
  have hne : tkB t ≠ [] := fun e => by
    have h3 : (tkB t).length = t.n.size := Array.length_toList
    rw [e, List.length_nil] at h3
    have := h1.2.1; omega
  rw [tkP_of hc, tkV_ok hn ⟨by omega, hne⟩, mkT_S]
theorem ptE_S {l : List Tk} (h : (tsE l).2 = 0) (hs : (tsS l).length ≤ 60000) : ptE (tsS l) = (l, 0) := by
  by_cases hl : l = []
  · subst hl; rfl
  obtain ⟨h8, hO⟩ := tsE_ok h
  have hT : ∀ t ∈ l, nmP t.n ∧ ∀ n ∈ tkN t, 0 ≤ n ∧ n ≤ 100000 := fun t ht => by
    obtain ⟨i, hi, rfl⟩ := List.getElem_of_mem ht
    have := hO i hi
    rw [List.getD_eq_getElem?_getD, List.getElem?_eq_getElem hi] at this
    exact this
  have hc : cutG 59 [] (tsS l) = l.map tkS := cut_jn (by simpa using hl) (fun x hx => by
    obtain ⟨t, ht, rfl⟩ := List.mem_map.1 hx
    rw [tkS, List.mem_append, List.mem_cons]
    rintro (h1 | h1 | h1)
    · exact nm_no (hT t ht).1 (.inr rfl) h1
    · exact absurd h1 (by decide)
    · exact wd_no (by decide) _ h1)
  have ha : alL tkP (l.map tkS) = some l := alL_map fun t ht => tkP_S (hT t ht).1 (hT t ht).2
  have hne : tsS l ≠ [] := fun e => by
    rw [e] at hc
    have h1 : alL tkP (cutG 59 [] []) = none := rfl
    rw [hc, ha] at h1; cases h1
  unfold ptE
  rw [if_neg (by omega), if_neg hne]
  unfold ptV
  rw [hc, ha]
  exact if_pos h
end Go.Pw
set_option linter.unusedSimpArgs false
set_option linter.unusedVariables false
set_option maxHeartbeats 8000000
namespace Go.Pw
open Go.RowKit Go.Lib
set_option maxRecDepth 2000
open Go Go.Proofs A1 A2 A3 A4
theorem siE_ts {s : Si} (h : (siE s).2 = 0) : (tsE s.tk).2 = 0 := by
  rw [siE] at h
  split at h
  · assumption
  · exact h
theorem site_tk {s : Si} (hf : fewT s.tk) (h : (tsE s.tk).2 = 0) : ∀ x ∈ s.tk, Tk64 x := fun x hx => by
  obtain ⟨i, hi, rfl⟩ := List.getElem_of_mem hx
  have h1 := hf.2 i hi
  have h2 := ((tsE_ok h).2 i hi).2
  rw [List.getD_eq_getElem?_getD, List.getElem?_eq_getElem hi] at h1 h2
  simp only [Option.getD_some] at h1 h2
  exact ⟨by omega, by omega, fun n hn => by have := h2 n hn; exact ⟨by omega, by omega⟩⟩
theorem C6 {s : Si} {t : St8} {p : Int × Int} (hp : w64 p.1 ∧ w64 p.2) : PFD Tryz.prog 6 [siv s, stv t, frv p] (vbl true) := by
  have f1 := C59 (s := s)
  by_cases hf : fewP s
  rotate_left
  · rw [fewB, decide_eq_false hf] at f1
    refine pi1 fn6 ?_
    (repeat' first | (refine Owe.same ?_; first | refine Owe.o ?_ | refine Owe.mk ?_ ?_) | (refine Fork.same ?_; (first | refine fkY ?_ | refine fkF ?_ | ((first | refine fkD ?_ ?_ | refine fkN ?_ ?_ | refine fkM ?_ ?_) <;> intro h))) | ((first | refine OpsL.same ?_ | refine OpsDL.same ?_); first | refine oK C58 rfl rfl rfl ?_ | refine oK f1 rfl rfl rfl ?_) | refine MvQ.stay ?_)
    (refine rqK rfl ?_; (repeat' first | exact rfl | (refine qS ?_; constructor)))
  rw [fewB, decide_eq_true hf] at f1
  have hs := (Few.of hf).sm
  by_cases hd : (t.d.length : Int) ≤ 6
  rotate_left
  · refine pi1 fn6 ?_
    (repeat' first | (refine Owe.same ?_; first | refine Owe.o ?_ | refine Owe.mk ?_ ?_) | (refine Fork.same ?_; (first | refine fkY ?_ | refine fkF ?_ | ((first | refine fkD ?_ ?_ | refine fkN ?_ ?_ | refine fkM ?_ ?_) <;> intro h))) | ((first | refine OpsL.same ?_ | refine OpsDL.same ?_); first | refine oK C58 rfl rfl rfl ?_ | refine oK f1 rfl rfl rfl ?_) | refine MvQ.stay ?_)
    (refine rqK rfl ?_; (repeat' first | exact rfl | (refine qS ?_; constructor)))
  have c60 := C60 hs
  have c61 := C61 (s := s) (t := t) ⟨hs, by omega⟩
  by_cases h0 : (siE s).2 = 0
  rotate_left
  · generalize (siE s).2 = e at *
    refine pi1 fn6 ?_
    (repeat' first | (refine Owe.same ?_; first | refine Owe.o ?_ | refine Owe.mk ?_ ?_) | (refine Fork.same ?_; (first | refine fkY ?_ | refine fkF ?_ | ((first | refine fkD ?_ ?_ | refine fkN ?_ ?_ | refine fkM ?_ ?_) <;> intro h))) | ((first | refine OpsL.same ?_ | refine OpsDL.same ?_); first | refine oK C58 rfl rfl rfl ?_ | refine oK f1 rfl rfl rfl ?_ | refine oK c60 rfl rfl rfl ?_) | refine MvQ.stay ?_)
    (refine rqK rfl ?_; (repeat' first | exact rfl | (refine qS ?_; constructor)))
  rw [h0] at c60
  by_cases h1 : (rsE s t).2 = 0
  rotate_left
  · generalize (rsE s t).2 = e at *
    refine pi1 fn6 ?_
    (repeat' first | (refine Owe.same ?_; first | refine Owe.o ?_ | refine Owe.mk ?_ ?_) | (refine Fork.same ?_; (first | refine fkY ?_ | refine fkF ?_ | ((first | refine fkD ?_ ?_ | refine fkN ?_ ?_ | refine fkM ?_ ?_) <;> intro h))) | ((first | refine OpsL.same ?_ | refine OpsDL.same ?_); first | refine oK C58 rfl rfl rfl ?_ | refine oK f1 rfl rfl rfl ?_ | refine oK c60 rfl rfl rfl ?_ | refine oK c61 rfl rfl rfl ?_) | refine MvQ.stay ?_)
    (refine rqK rfl ?_; (repeat' first | exact rfl | (refine qS ?_; constructor)))
  have hon : onE s t = 0 := by rw [onE_eq h0]; exact h1
  rw [h1] at c61
  have hO := OnOk.of hon
  have c62 := C62 hO.b
  by_cases hr : reB s t = true
  rotate_left
  · have hr : reB s t = false := by simpa using hr
    rw [hr] at c62
    refine pi1 fn6 ?_
    (repeat' first | (refine Owe.same ?_; first | refine Owe.o ?_ | refine Owe.mk ?_ ?_) | (refine Fork.same ?_; (first | refine fkY ?_ | refine fkF ?_ | ((first | refine fkD ?_ ?_ | refine fkN ?_ ?_ | refine fkM ?_ ?_) <;> intro h))) | ((first | refine OpsL.same ?_ | refine OpsDL.same ?_); first | refine oK C58 rfl rfl rfl ?_ | refine oK f1 rfl rfl rfl ?_ | refine oK c60 rfl rfl rfl ?_ | refine oK c61 rfl rfl rfl ?_ | refine oK c62 rfl rfl rfl ?_) | refine MvQ.stay ?_)
    (refine rqK rfl ?_; (repeat' first | exact rfl | (refine qS ?_; constructor)))
  rw [hr] at c62
  have c63 := C63 hp
  by_cases hz : prcE p = 0
  rotate_left
  · generalize prcE p = e at *
    refine pi1 fn6 ?_
    (repeat' first | (refine Owe.same ?_; first | refine Owe.o ?_ | refine Owe.mk ?_ ?_) | (refine Fork.same ?_; (first | refine fkY ?_ | refine fkF ?_ | ((first | refine fkD ?_ ?_ | refine fkN ?_ ?_ | refine fkM ?_ ?_) <;> intro h))) | ((first | refine OpsL.same ?_ | refine OpsDL.same ?_); first | refine oK C58 rfl rfl rfl ?_ | refine oK f1 rfl rfl rfl ?_ | refine oK c60 rfl rfl rfl ?_ | refine oK c61 rfl rfl rfl ?_ | refine oK c62 rfl rfl rfl ?_ | refine oK c63 rfl rfl rfl ?_) | refine MvQ.stay ?_)
    (refine rqK rfl ?_; (repeat' first | exact rfl | (refine qS ?_; constructor)))
  have hpo := prcE.ok hz
  rw [hz] at c63
  have hts := siE_ts h0
  have n6 := hO.ok.n
  have hk := site_tk hf.1 hts
  have k1 := ts_len hk
  have c28 := C28 (l := s.tk) ⟨hs.tk, hs.t⟩
  have c27 := C27 (l := s.tk) ⟨by omega, hk⟩
  have c33 := C33 (s := tsS s.tk) (by omega)
  rw [ptE_S hts (by omega)] at c33
  have c42 := C42 (l := s.tk) ⟨hs.tk, hs.t⟩
  have c65 := C65 hs
  have c30 := C30 (t := t) (by omega)
  have eo : orE s t = 0 := by rw [orE, if_pos hon, if_pos hr]
  have eb : bdE s t p = 0 := by rw [bdE, if_pos eo, hz]
  have hw := reB_w hO.b hr
  have cb := C64 (s := s) (t := t) ⟨hs, by omega⟩
  rw [eo, if_pos rfl, if_pos rfl] at cb
  obtain ⟨b1, b2, b3, b4⟩ := best_is (pm := fun _ => true) hO
  have hB : bestPp (fun _ => true) s t = bestP s t := by
    rw [← bestPp_nil]; exact gpF_ext (fun k _ => by simp [pmL]) _ _ _ _
  rw [hB] at b1 b2 b3 b4
  have hBl : (bestP s t).1.length ≤ 6 := by have := acP_len hO b1; omega
  have c32 := C32 (l := (bestP s t).1) (by omega)
  have c66 := C66 (s := s) (t := t) ⟨hs, by omega⟩
  rw [eo, if_pos rfl, if_pos rfl] at c66
  have c67 := C67 (s := s) (t := t) (p := p) ⟨hs, by omega, hp⟩
  rw [eb, if_pos rfl] at c67
  have hbo := bsF_ok (t := t) hO.ok s.tk.length (Nat.le_refl _)
  have s1 := bdF_sm hO hpo
  have s2 := bdF_sm hO hbo
  have wf : ∀ {q : Int × Int}, frSm q → w64 q.1 ∧ w64 q.2 := fun ⟨⟨a1, a2⟩, a3, a4⟩ => ⟨⟨by omega, by omega⟩, by omega, by omega⟩
  have cL1 := C68 (p := bdF s t p) (wf s1)
  have cL2 := C68 (p := bdF s t (bpr s t)) (wf s2)
  rw [decide_eq_true (frac_lw hpo.2.1)] at cL1
  rw [decide_eq_true (frac_lw hbo.2.1)] at cL2
  have hpr := acP_pr.1 b1
  have vb := vaP_bd hO.ok (prE_tk hO hpr) (bestP s t).1.length (Nat.le_refl _)
  have vb : 0 ≤ (bestP s t).2 ∧ (bestP s t).2 ≤ 60000 := by rw [← b2]; simp only [vaI]; omega
  have cC1 := C69 (a := ((bestP s t).2, 1)) (b := bdF s t (bpr s t)) ⟨by omega, s2⟩
  have cC2 := C69 (a := bdF s t (bpr s t)) (b := bdF s t p) ⟨s2, s1⟩
  have q2 := cmpF_le.2 (bpr_least hO hw hpo)
  have q1 : cmpF ((bestP s t).2, 1) (bdF s t (bpr s t)) ≤ 0 := by
    have h := plan_le (pm := fun _ => true) (p := bpr s t) hbo hO hw b1
    rw [b2, cmpF, cmpI_lt0] at h
    exact cmpF_le.2 (Int.not_lt.1 h)
  have hen := hO.en
  obtain ⟨r1, r2⟩ : onE s ⟨t.p, t.t, min 100000000 (t.w + 25), t.o, t.d⟩ = 0 ∧ (bestP s t).2 ≤ (bestP s ⟨t.p, t.t, min 100000000 (t.w + 25), t.o, t.d⟩).2 := by
    have h := best_up (s := s) (t := t) (r := s.res) (e := min 100000000 (t.w + 25) - t.w) hon hO.ok.e.1.2 (Int.le_refl _) (by omega) (by omega)
    have e : upT t (min 100000000 (t.w + 25) - t.w) = ⟨t.p, t.t, min 100000000 (t.w + 25), t.o, t.d⟩ := by
      show St8.mk _ _ _ _ _ = _
      congr 1
      omega
    rw [e] at h
    exact h
  have hres := hO.ok.e.1.2
  have hq0 : 0 ≤ s.res.tdiv 2 ∧ s.res.tdiv 2 ≤ s.res := by
    have h0 : 0 ≤ s.res := hres.1
    rw [Int.tdiv_eq_ediv_of_nonneg h0]; omega
  obtain ⟨r3, r4⟩ : onE (upS s (s.res.tdiv 2)) t = 0 ∧ (bestP s t).2 ≤ (bestP (upS s (s.res.tdiv 2)) t).2 := by
    have h := best_up (s := s) (t := t) (r := s.res.tdiv 2) (e := 0) hon ⟨hq0.1, by have := hres.2; omega⟩ hq0.2 (Int.le_refl _) (by omega)
    have e : upT t 0 = t := by
      show St8.mk _ _ _ _ _ = _
      rw [Int.add_zero]
    rw [e] at h
    exact h
  have ore : ∀ {s' : Si} {t' : St8}, onE s' t' = 0 → reB s' t' = true → orE s' t' = 0 := fun h h2 => by rw [orE, if_pos h, if_pos h2]
  have ro : orE s ⟨t.p, t.t, min 100000000 (t.w + 25), t.o, t.d⟩ = 0 := ore r1 (by
    have h := up_re (s := s) (t := t) (r := s.res) (e := min 100000000 (t.w + 25) - t.w) (Int.le_refl _) (by omega) hr
    have e : upT t (min 100000000 (t.w + 25) - t.w) = ⟨t.p, t.t, min 100000000 (t.w + 25), t.o, t.d⟩ := by
      show St8.mk _ _ _ _ _ = _
      congr 1
      omega
    rw [e] at h
    exact h)
  have bo : orE (upS s (s.res.tdiv 2)) t = 0 := ore r3 (by
    have h := up_re (s := s) (t := t) (r := s.res.tdiv 2) (e := 0) hq0.2 (Int.le_refl _) hr
    have e : upT t 0 = t := by
      show St8.mk _ _ _ _ _ = _
      rw [Int.add_zero]
    rw [e] at h
    exact h)
  have cr := C64 (s := s) (t := ⟨t.p, t.t, min 100000000 (t.w + 25), t.o, t.d⟩) ⟨hs, by show t.d.length ≤ 1000; omega⟩
  rw [ro, if_pos rfl, if_pos rfl] at cr
  have hs2 : SiSm (upS s (s.res.tdiv 2)) := ⟨hs.tk, hs.t, hs.tr, hs.r, hs.ho, hs.ti⟩
  have cbo := C64 (s := upS s (s.res.tdiv 2)) (t := t) ⟨hs2, by omega⟩
  rw [bo, if_pos rfl, if_pos rfl] at cbo
  have hall : ∀ j, j < (bestP s t).1.length → sfK s t (bestP s t).1 j = 0 := by
    have := hpr; rw [prE, eachN_ok] at this; exact this
  obtain ⟨g1, g2⟩ := perm_ok hO hpr (List.Perm.refl _)
  have hgo : goE s t (bestP s t).1 = 0 := goE_0 hon g1 g2
  have htg : tgB s t (bestP s t).1 = true := togB_perm _ hO hall (List.Perm.refl _)
  have c70 := C70 (s := s) (t := t) (l := (bestP s t).1) ⟨hs, by omega, by omega⟩
  rw [hgo, htg] at c70
  have c71 := C71 (s := s) (t := t) ⟨hs, by omega⟩
  have c72 := C72 (l := (bestP s t).1) (by omega)
  have hperm : (srtL (bestP s t).1 6).Perm (bestP s t).1 := srt_perm (nuE_ok.1 g1).2 (fun n hn => by
    have := (acP_nn hO b1 n hn).1; omega)
  have hts2 : tgB s t (srtL (bestP s t).1 6) = true := togB_perm _ hO hall hperm
  have hSl : (srtL (bestP s t).1 6).length ≤ 6 := fltL_len _ _
  have c44 := C44 (l := srtL (bestP s t).1 6) (m := (clE s t).1) (by omega)
  have hcl : (clE s t).2 = 12 ∨ ((clE s t).2 = 0 ∧ 0 < (clE s t).1.length ∧ ¬ srtL (bestP s t).1 6 = (clE s t).1) := by
    rw [clE, if_pos hon]
    cases hc : clO s t with
    | none => exact .inl rfl
    | some cl =>
      right
      have h1 := clK_some hc
      have h2 := clK_len hc
      refine ⟨rfl, h2.2, fun e => ?_⟩
      have h3 := h1.2.1
      have e : srtL (bestP s t).1 6 = cl := e
      rw [← e] at h3
      rw [clB, hts2] at h3
      simp at h3
  clear b1 b2 b3 b4 hall hpr hperm hts2 g1 g2 hgo htg ore hk hO hs2
  generalize srtL (bestP s t).1 6 = S at *
  generalize clE s t = cl at *
  generalize cmpF ((bestP s t).2, 1) (bdF s t (bpr s t)) = V at *
  generalize cmpF (bdF s t (bpr s t)) (bdF s t p) = U at *
  generalize bdF s t (bpr s t) = G at *
  generalize bdF s t p = F at *
  generalize bpr s t = R at *
  generalize bestP s ⟨t.p, t.t, min 100000000 (t.w + 25), t.o, t.d⟩ = B1 at *
  generalize bestP (upS s (s.res.tdiv 2)) t = B2 at *
  generalize bestP s t = B at *
  generalize tsS s.tk = A at *
  obtain ⟨cl, ce⟩ := cl
  rcases hcl with hcl | ⟨hc1, hc2, hc3⟩
  · simp only at hcl
    subst hcl
    refine pi1 fn6 ?_
    (repeat' first | (refine Owe.same ?_; first | refine Owe.o ?_ | refine Owe.mk ?_ ?_) | (refine Fork.same ?_; (first | refine fkY ?_ | refine fkF ?_ | ((first | refine fkD ?_ ?_ | refine fkN ?_ ?_ | refine fkM ?_ ?_) <;> intro h))) | ((first | refine OpsL.same ?_ | refine OpsDL.same ?_); first | refine oK C58 rfl rfl rfl ?_ | refine oK f1 rfl rfl rfl ?_ | refine oK c60 rfl rfl rfl ?_ | refine oK c61 rfl rfl rfl ?_ | refine oK c62 rfl rfl rfl ?_ | refine oK c63 rfl rfl rfl ?_ | refine oK c28 rfl rfl rfl ?_ | refine oK c27 rfl rfl rfl ?_ | refine oK c33 rfl rfl rfl ?_ | refine oK c42 rfl rfl rfl ?_ | refine oK c65 rfl rfl rfl ?_ | refine oK c30 rfl rfl rfl ?_ | refine oK cb rfl rfl rfl ?_ | refine oK c66 rfl rfl rfl ?_ | refine oK c67 rfl rfl rfl ?_ | refine oK cL1 rfl rfl rfl ?_ | refine oK cL2 rfl rfl rfl ?_ | refine oK cC1 rfl rfl rfl ?_ | refine oK cC2 rfl rfl rfl ?_ | refine oK cr rfl rfl rfl ?_ | refine oK cbo rfl rfl rfl ?_ | refine oK c32 rfl rfl rfl ?_ | refine oK c70 rfl rfl rfl ?_ | refine oK c71 rfl rfl rfl ?_) | refine MvQ.stay ?_)
    (refine rqK rfl ?_; (repeat' first | exact rfl | (refine qS ?_; constructor)))
  · simp only at hc1 hc2 hc3
    subst hc1
    rw [decide_eq_false hc3] at c44
    refine pi1 fn6 ?_
    (repeat' first | (refine Owe.same ?_; first | refine Owe.o ?_ | refine Owe.mk ?_ ?_) | (refine Fork.same ?_; (first | refine fkY ?_ | refine fkF ?_ | ((first | refine fkD ?_ ?_ | refine fkN ?_ ?_ | refine fkM ?_ ?_) <;> intro h))) | ((first | refine OpsL.same ?_ | refine OpsDL.same ?_); first | refine oK C58 rfl rfl rfl ?_ | refine oK f1 rfl rfl rfl ?_ | refine oK c60 rfl rfl rfl ?_ | refine oK c61 rfl rfl rfl ?_ | refine oK c62 rfl rfl rfl ?_ | refine oK c63 rfl rfl rfl ?_ | refine oK c28 rfl rfl rfl ?_ | refine oK c27 rfl rfl rfl ?_ | refine oK c33 rfl rfl rfl ?_ | refine oK c42 rfl rfl rfl ?_ | refine oK c65 rfl rfl rfl ?_ | refine oK c30 rfl rfl rfl ?_ | refine oK cb rfl rfl rfl ?_ | refine oK c66 rfl rfl rfl ?_ | refine oK c67 rfl rfl rfl ?_ | refine oK cL1 rfl rfl rfl ?_ | refine oK cL2 rfl rfl rfl ?_ | refine oK cC1 rfl rfl rfl ?_ | refine oK cC2 rfl rfl rfl ?_ | refine oK cr rfl rfl rfl ?_ | refine oK cbo rfl rfl rfl ?_ | refine oK c32 rfl rfl rfl ?_ | refine oK c70 rfl rfl rfl ?_ | refine oK c71 rfl rfl rfl ?_ | refine oK c72 rfl rfl rfl ?_ | refine oK c44 rfl rfl rfl ?_) | refine MvQ.stay ?_)
    (refine rqK rfl ?_; (repeat' first | exact rfl | (refine qS ?_; constructor)))
    exact decide_eq_true (by show 0 < (cl.length : Int); omega)
end Go.Pw
set_option linter.unusedVariables false
namespace Go.Proofs.YtailfkllanegeaaGreatDoor
open Go.ChangeShapes Go.WideShapes Go.ChangeAt Go.RowKit Go.Pw
abbrev laids : List (String × DataW Unit) := Rows.cableStringsRow.laid
theorem var_at {W : World} {name : String} {g : Nat} {cs : Array Value} (hg : Tryz.prog.globalNamed name = some g) (hv : World.var? Tryz.prog W name = some cs) : ∃ t fr, W.heap[g]? = some (.cells cs t fr) := by
  unfold World.var? at hv
  rw [hg, Option.bind_some] at hv
  split at hv
  · rename_i cs' t fr h
    cases hv
    exact ⟨t, fr, h⟩
  · cases hv
set_option maxRecDepth 100000 in
theorem ifc_at {W : World} {name : String} {g : Nat} {cs : Array Value} {fuel : Nat} {d : DataW Unit} {p : List MemPlace} {b : Nat} {sp : Nat → Bool} {hd : Bool} {enc : TypeId × Value → Unit} (hg : Tryz.prog.globalNamed name = some g) (hv : World.var? Tryz.prog W name = some cs)
    (h : DataW.trod enc Tryz.prog W b sp hd fuel 258 cs.toList = some (d, p)) : ifcW W g := by
  obtain ⟨t, fr, hh⟩ := var_at hg hv
  cases fuel with
  | zero => simp [DataW.trod] at h
  | succ fuel =>
    have hu := Tryz.underlying258
    generalize #[("Error", 261)] = ms at hu
    obtain ⟨l⟩ := cs
    simp only [DataW.trod, hu] at h
    split at h
    all_goals first
      | (have q := (by assumption : some (TypeDesc.interface ms) = some _); injection q with q; cases q; done)
      | (cases h; done)
      | exact ⟨.nilIface, by rw [Lib.cell_of_heap hh]; rfl, .inl rfl⟩
      | exact ⟨_, by rw [Lib.cell_of_heap hh]; rfl, .inr ⟨_, _, rfl⟩⟩
set_option maxRecDepth 100000 in
/-- What the listed variables hold. -/
theorem of_laid {W : World} (h : laidMetH Tryz.prog laids W) : LaidW W := by
  rw [MakeChecks.laidMetH_plain _ _ _ (by kernel_rfl)] at h
  obtain ⟨ps, ⟨g0, t0, cs0, f0, p0, q0, hg0, ht0, hv0, hd0, ⟨g1, t1, cs1, f1, p1, q1, hg1, ht1, hv1, hd1, ⟨g2, t2, cs2, f2, p2, q2, hg2, ht2, hv2, hd2, ⟨g3, t3, cs3, f3, p3, q3, hg3, ht3, hv3, hd3, ⟨g4, t4, cs4, f4, p4, q4, hg4, ht4, hv4, hd4, ⟨g5, t5, cs5, f5, p5, q5, hg5, ht5, hv5, hd5, _⟩, _⟩, _⟩, _⟩, _⟩, _⟩, _⟩ := h
  have e2 : g2 = 5 := Option.some.inj (hg2.symm.trans sh_laysM171.m17)
  have e4 : g4 = 2 := Option.some.inj (hg4.symm.trans sh_laysC172.m16)
  have e5 : g5 = 1 := Option.some.inj (hg5.symm.trans sh_laysC172.m15)
  subst e2; subst e4; subst e5
  have k2 : t2 = 361 := Option.some.inj (ht2.symm.trans (by kernel_rfl))
  have k4 : t4 = 258 := Option.some.inj (ht4.symm.trans (by kernel_rfl))
  have k5 : t5 = 258 := Option.some.inj (ht5.symm.trans (by kernel_rfl))
  subst k2; subst k4; subst k5
  refine ⟨?_, ifc_at hg5 hv5 hd5, ifc_at hg4 hv4 hd4⟩
  obtain ⟨t, fr, hh⟩ := var_at hg2 hv2
  have hcs := Lib.cells_of_tab (k := .u64) (zs := Lib.pow10Tab) Tryz.underlying361 Tryz.underlying298 (by kernel_rfl) (by kernel_rfl) hd2
  refine ⟨t, fr, ?_⟩
  rw [hh]
  obtain ⟨l⟩ := cs2
  simp only at hcs
  rw [hcs]
end Go.Proofs.YtailfkllanegeaaGreatDoor
