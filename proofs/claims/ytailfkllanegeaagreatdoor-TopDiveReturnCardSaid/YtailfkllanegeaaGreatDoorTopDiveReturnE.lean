/- Steps toward the row of this claim: part 5 of 6. Proved as named below, on no condition but those that each theorem states. -/
import Derived.Test.YtailfkllanegeaaGreatDoorTopDiveReturnD
import Derived.Test.YtailfkllanegeaaGreatDoorProg
import Derived.Shelf.Strings.Builder1
import Derived.Shelf.Strings.OnBuilder
import Derived.Shelf.Strings.BuilderK
import Derived.Shelf.LaysM
import Derived.Shelf.LaysC
import Derived.Shelf.Strconv.Itoa3
import Derived.Shelf.Strconv.AtoiAll
import Derived.Shelf.Strings.Search3
import Derived.Shelf.Strings.SplitCore
import Derived.Shelf.Strings.Prefix
import Derived.Shelf.Strings.Count
import Derived.Lib.AtoiAll
import Derived.Lib.ItoaNum
import Derived.Lib.ItoaLen
import Derived.Lib.Join
import Derived.Lib.Split
import Derived.Lib.SplitLaws
import Derived.Lib.AtoiErrMem
import Derived.Test.YtailfkllanegeaaGreatDoorRows
import Derived.LaidMore
import Derived.OpenShut
import Derived.Lib.LaidTab
set_option linter.unusedSimpArgs false
set_option linter.unusedVariables false
set_option maxHeartbeats 8000000
namespace Go.Pw
set_option maxRecDepth 2000
open Go Go.Proofs A1 A2 A3 A4
abbrev rb (b : Bool) : List D := [.v (.bool b)]
abbrev boos (l : List Bool) : C := slv 1 rb false l
abbrev dpA (s : Si) (n : Int) (k : Nat) : List Bool := dpL s n k ++ List.replicate (s.tk.length - k) false
theorem dpA_len {s : Si} {n : Int} {k : Nat} (h : k ≤ s.tk.length) : (dpA s n k).length = s.tk.length := by
  rw [List.length_append, dpL_len, List.length_replicate]; omega
section
variable {P : Program} {N base : Nat}
theorem OpsDL.cmr [m : Mix P] {M : List Nat} {acc : List (Bool × List Nat)} {dst : Option Nat} {fop : Operand} {xs : List Operand} {g : Option (Nat × Bool)} {rest : List LIns} {env : List (Nat × V)} {σ : Store} (σ0 : Store) {nx hi : Nat} {K : St → Prop} {f : FuncId} {ids : List Nat} {args : List V} {v : V}
    (hc : CallD P f args σ0 nx v σ0 hi) (hs : Sub σ0 σ) (hf : evo env fop = .c (.fn f ids)) (hg : guardOf env g = .run) (ha : RIs (xs.map (evo env) ++ ids.map fun k => .c (.bp k 0)) args)
    (h : putK dst v env fun env' => frS (app σ0 σ0 σ) fun σ' => frNat hi fun hi' => wpD P N base M rest env' σ' hi' none ((true, dom σ0 ++ dom σ0) :: acc) K) : OpsDL P N base M (⟨dst, .call fop xs, g⟩ :: rest) ⟨env, σ, nx⟩ acc K := by
  rw [putK_eq, frS_eq, frNat_eq] at h
  exact ⟨OpsD.step (k := 0) (ks := []) (i := ⟨dst, .call fop xs, g⟩) (st := ⟨env, σ, nx⟩) (VStep.call hg rfl hf ha hc) hs (Nat.le_refl _) hc.2.1 true (fun _ => rfl) (OpsD.wp h)⟩
end
theorem RetQ.wk {nx nx1 nx' : Nat} {rl : List RL} {vs vs0 : List V} {σ' : Store} {e : Exit} {env : List (Nat × V)} {σ : Store} (hres : resAll env σ rl = some vs0) (hl : Nat.beq vs0.length vs.length = true) (h : Is nx ⟨argEnv 0 vs0, σ, nx1⟩ ⟨argEnv 0 vs, σ', nx'⟩ []) (he : e = .normal ∨ e = .ret := by first | exact .inr rfl | exact .inl rfl) : RetQ nx rl vs σ' nx' e ⟨env, σ, nx1⟩ := by
  have := h.wk
  rw [nmAt_nil] at this
  exact RetQ.of he hres hl (Mv.weaken this)
abbrev dsto (n : Int) (L : List Bool) : Store := [(2, .box [.ms 1 L.length]), (1, rowv 4 1 rb false L), (0, .box [int n])]
theorem A56 {n : Int} {a : List Int} {L : List Bool} (ha : a.length ≤ 1000000) (hL : L.length ≤ 1000000) (hb : ∀ j, j < a.length → 0 ≤ a.getD j 0 ∧ a.getD j 0 < L.length) :
    CallD Tryz.prog 158 [.c (ints a), .c (.fn 228 [0, 2])] (dsto n L) 3 (vbl (a.any fun x => decide (x = n) || L.getD x.toNat false)) (dsto n L) 3 := by
  obtain ⟨q, hq⟩ : ∃ q, q = (a.any fun x => decide (x = n) || L.getD x.toNat false) := ⟨_, rfl⟩
  rw [← hq]
  rw [← anyN_mem] at hq
  obtain ⟨F, hF⟩ : ∃ F : Nat → Bool, F = fun j => (decide (a.getD j 0 = n) || L.getD (a.getD j 0).toNat false) := ⟨_, rfl⟩
  rw [← hF] at hq
  have hFj : ∀ j, F j = (decide (a.getD j 0 = n) || L.getD (a.getD j 0).toNat false) := fun j => by rw [hF]
  refine CallD.of (vs := [vbl q]) fn158 rfl rfl (by (refine qis ?_ ?_ <;> (repeat' first | exact rfl | (refine qS ?_; constructor)))) ?_
  (repeat' first | (refine Owe.same ?_; first | refine Owe.o ?_ | refine Owe.mk ?_ ?_) | (refine Fork.same ?_; (first | refine fkD ?_ ?_ | refine fkN ?_ ?_ | refine fkM ?_ ?_) <;> intro h) | refine MvQ.stay ?_)
  refine Ops.cs rfl rfl (CallS.of fn222 rfl ?_)
  (repeat' first | (refine Owe.same ?_; first | refine Owe.o ?_ | refine Owe.mk ?_ ?_) | (refine Fork.same ?_; (first | refine fkD ?_ ?_ | refine fkN ?_ ?_ | refine fkM ?_ ?_) <;> intro h) | refine MvQ.stay ?_)
  refine Sat.lp (fun j : Nat => ⟨[(8, vi .i64 j), (7, vi .i64 a.length), (6, .c (ints a)), (0, .c (ints a)), (1, .c (.fn 228 [0, 2]))], dsto n L, 3⟩) (fun j => j ≤ a.length ∧ ∀ i, i < j → F i = false) (fun j => a.length - j) 0 [] ⟨Nat.zero_le _, fun i hi => by omega⟩ ?_ ?_
  · (refine qis ?_ ?_ <;> (repeat' first | exact rfl | (refine qS ?_; constructor)))
  intro j hj
  refine Fork.dec (fun hlj => ?_) (fun hlj => ?_)
  · have hlj : j < a.length := by omega
    have hbj := hb j hlj
    have hbj' : 0 ≤ a.getD (j : Int).toNat 0 ∧ a.getD (j : Int).toNat 0 < L.length := by rw [Int.toNat_natCast]; exact hbj
    (repeat' first | (refine Owe.same ?_; first | refine Owe.o ?_ | refine Owe.mk ?_ ?_) | (refine Fork.same ?_; (first | refine fkD ?_ ?_ | refine fkN ?_ ?_ | refine fkM ?_ ?_) <;> intro h) | refine MvQ.stay ?_)
    refine Ops.cs rfl rfl (CallS.of fn228 rfl ?_)
    (repeat' first | (refine Owe.same ?_; first | refine Owe.o ?_ | refine Owe.mk ?_ ?_) | (refine Fork.same ?_; (first | refine fkD ?_ ?_ | refine fkN ?_ ?_ | refine fkM ?_ ?_) <;> intro h) | refine MvQ.stay ?_)
    · have h : a.getD j 0 = n := h
      have hFt : F j = true := by rw [hFj, decide_eq_true h]; rfl
      rw [anyN_t hlj hFt] at hq
      subst hq
      (repeat' first | (refine Owe.same ?_; first | refine Owe.o ?_ | refine Owe.mk ?_ ?_) | (refine Fork.same ?_; (first | refine fkD ?_ ?_ | refine fkN ?_ ?_ | refine fkM ?_ ?_) <;> intro h) | refine MvQ.stay ?_)
      refine RetQ.wk rfl rfl ?_
      (refine qis ?_ ?_ <;> (repeat' first | exact rfl | (refine qS ?_; constructor)))
    · have h : L.getD (a.getD j 0).toNat false = true := h
      have hFt : F j = true := by rw [hFj, h, Bool.or_true]
      rw [anyN_t hlj hFt] at hq
      subst hq
      (repeat' first | (refine Owe.same ?_; first | refine Owe.o ?_ | refine Owe.mk ?_ ?_) | (refine Fork.same ?_; (first | refine fkD ?_ ?_ | refine fkN ?_ ?_ | refine fkM ?_ ?_) <;> intro h) | refine MvQ.stay ?_)
      refine RetQ.wk rfl rfl ?_
      (refine qis ?_ ?_ <;> (repeat' first | exact rfl | (refine qS ?_; constructor)))
    · rename_i h1
      have h : L.getD (a.getD j 0).toNat false = false := h
      have h1 : ¬ a.getD j 0 = n := h1
      have hFt : F j = false := by rw [hFj, h, decide_eq_false h1]; rfl
      exact again (j + 1) [] ⟨hlj, succ_all hj.2 hFt⟩ (by omega) (by (refine qis ?_ ?_ <;> (repeat' first | exact rfl | (refine qS ?_; constructor))))
  · have : j = a.length := by omega
    subst this
    rw [anyN_f.2 hj.2] at hq
    subst hq
    (repeat' first | (refine Owe.same ?_; first | refine Owe.o ?_ | refine Owe.mk ?_ ?_) | (refine Fork.same ?_; (first | refine fkD ?_ ?_ | refine fkN ?_ ?_ | refine fkM ?_ ?_) <;> intro h) | refine MvQ.stay ?_)
    refine RetQ.wk rfl rfl ?_
    (refine qis ?_ ?_ <;> (repeat' first | exact rfl | (refine qS ?_; constructor)))
theorem dpA_succ {s : Si} {n : Int} {k : Nat} (hO : SiOk s) (hk : k < s.tk.length) : dpA s n (k + 1) = (dpA s n k).set k ((s.tk.getD k tk0).a.any fun x => decide (x = n) || (dpA s n k).getD x.toNat false) := by
  have hl := dpL_len (s := s) (n := n) k
  obtain ⟨s1, s2⟩ := Srt.of (hO.t k hk).a
  have e : ((s.tk.getD k tk0).a.any fun x => decide (x = n) || (dpA s n k).getD x.toNat false) = (s.tk.getD k tk0).a.any fun x => decide (x = n) || (dpL s n k).getD x.toNat false := by
    rw [← anyN_mem, ← anyN_mem]
    refine anyN_ext fun j hj => ?_
    have h2 := s2 j hj
    congr 1
    simp only [dpA, List.getD_eq_getElem?_getD]
    rw [List.getElem?_append_left (by rw [hl]; have := h2; simp only [List.getD_eq_getElem?_getD] at this; omega)]
  rw [e, dpA, dpA, dpL, List.set_append_right _ _ (by omega), hl, Nat.sub_self, show s.tk.length - k = (s.tk.length - (k + 1)) + 1 by omega, List.replicate_succ, List.set_cons_zero, List.append_assoc]
  rfl
theorem C169 {s : Si} {n : Int} : (SiOk s ∧ TkSm s.tk) → PFD Tryz.prog 169 [siv s, vi .i64 n] (.c (boos (dpL s n s.tk.length))) := fun ⟨hO, hs⟩ => by
  have n6 := hO.n
  have hA := fun k h => dpA_len (s := s) (n := n) (k := k) h
  refine pi1 fn169 ?_
  (repeat' first | (refine Owe.same ?_; first | refine Owe.o ?_ | refine Owe.mk ?_ ?_) | (refine Fork.same ?_; (first | refine fkD ?_ ?_ | refine fkN ?_ ?_ | refine fkM ?_ ?_) <;> intro h) | refine MvQ.stay ?_)
  refine Sat.lp (fun k : Nat => ⟨[(15, vi .i64 k), (14, vi .i64 s.tk.length), (13, .c (tks s.tk)), (5, .c (.bp 2 0)), (3, .c (.bp 0 0))], [(2, .box [.ms 1 (dpA s n k).length]), (1, rowv 4 1 rb false (dpA s n k)), (0, .box [int n])], 3⟩) (fun k => k ≤ s.tk.length) (fun k => s.tk.length - k) 0 [0, 1, 2] (Nat.zero_le _) ?_ ?_
  · (refine qis ?_ ?_ <;> (repeat' first | exact rfl | (refine qS ?_; constructor)))
    · rw [hA 0 (Nat.zero_le _), Int.toNat_natCast]
    · exact ⟨false, rfl, by rw [Int.toNat_natCast]; rfl⟩
  intro k hk
  refine Fork.dec (fun hlt => ?_) (fun hlt => ?_)
  · have hlt : k < s.tk.length := by omega
    have hal := (hs k hlt).2
    obtain ⟨s1, s2⟩ := Srt.of (hO.t k hlt).a
    (repeat' first | (refine Owe.same ?_; first | refine Owe.o ?_ | refine Owe.mk ?_ ?_) | (refine Fork.same ?_; (first | refine fkD ?_ ?_ | refine fkN ?_ ?_ | refine fkM ?_ ?_) <;> intro h) | refine MvQ.stay ?_)
    have hlA := hA k hk
    refine OpsDL.cmr (dsto n (dpA s n k)) ((A56 (n := n) (a := (s.tk.getD k tk0).a) (L := dpA s n k) hal (by omega) (fun j hj => by have := s2 j hj; rw [hlA]; omega)).at _) (sub_cons rfl (sub_cons rfl (sub_cons rfl sub_nil))) rfl rfl ?_ ?_
    · refine VEqs.ris (qvs ?_)
      (repeat' first | exact rfl | (refine qS ?_; constructor))
    (repeat' first | (refine Owe.same ?_; first | refine Owe.o ?_ | refine Owe.mk ?_ ?_) | (refine Fork.same ?_; (first | refine fkD ?_ ?_ | refine fkN ?_ ?_ | refine fkM ?_ ?_) <;> intro h) | refine MvQ.stay ?_)
    have hd := dpA_succ (n := n) hO hlt
    have hlA2 := hA (k + 1) hlt
    refine again (k + 1) [0, 1, 2] hlt (by omega) ?_
    (refine qis ?_ ?_ <;> (repeat' first | exact rfl | (refine qS ?_; constructor)))
    · rw [hlA, hlA2]
    · exact ⟨_, rfl, by rw [Int.toNat_natCast]; exact hd⟩
  · have : k = s.tk.length := by omega
    subst this
    have e : dpL s n s.tk.length = dpA s n s.tk.length := by rw [dpA, Nat.sub_self]; simp
    rw [e]
    (repeat' first | (refine Owe.same ?_; first | refine Owe.o ?_ | refine Owe.mk ?_ ?_) | (refine Fork.same ?_; (first | refine fkD ?_ ?_ | refine fkN ?_ ?_ | refine fkM ?_ ?_) <;> intro h) | refine MvQ.stay ?_)
    refine rqF 0 _ rfl rfl rfl ?_; (repeat' first | exact rfl | (refine qS ?_; constructor))
end Go.Pw
set_option linter.unusedVariables false
set_option maxHeartbeats 2000000
set_option maxRecDepth 100000
namespace Go.Pw
open Go Go.Proofs
def lc78u : LCode :=
 (zQ [zI 3 (.boxS (zR 0)), zI 4 (.boxS (zR 1)), zI 5 (.box (zR 2)), zI 6 (.mv (.const (.slice none 0 0))), zI 7 (.mv (zK 0)), zI 8 (.mv (zK 0))] (zQ [zI 16 (.load true 8 (zR 3)), zI 17 (.load true 5 (zR 4)), zI 18 (zC 156
 [(zR 16), (zR 17)]), zM 15 18, zI 19 (.ext (zR 15) 0), zI 20 (.ext (zR 15) 1), zI 9 (.alloc [(.slice none 0 0), (.slice none 0 0), (.slice none 0 0), (.slice none 0 0), (.int .i64 0), (.int .i64 0), (.int .i64 0), (.int
 .i64 0), (.int .i64 0), (.int .i64 0), (.int .i64 0), (.int .i64 0), (.slice none 0 0)]), zN (.store 13 (zR 9) (zR 19)), zM 10 20] (.seq (zQ [zM 21 10, zL 22 5, zI 23 (.fld 0 (zR 3)), zL 24 23, zI 25 (.len (zR 24)), zI
 26 (.bin .sub (zR 25) (zK 1)), zI 27 (zC 168 [(zR 22), (zK 0), (zR 26)]), zI 28 (zC 152 [(zR 27), (zK 6)]), zI 29 (.lit false 34 1 [(zR 21), (zR 28)]), zI 30 (zC 151 [(zR 29)]), zM 10 30] (zQ [zM 31 10, zI 32 (.bin .neq
 (zR 31) (zK 0))] (.cond (zR 32) (zQ [zM 33 10, zI 6 (.mv (.const (.slice none 0 0))), zI 7 (.mv (zK 0)), zM 8 33] .ret) .skip))) (.seq (.seq (.regionD [zI 34 (.load true 13 (zR 9)), zL 35 5, zI 36 (zC 144 [(zR 34), (zR
 35)]), zI 37 (.un .not (zR 36)), zI 38 (zC 152 [(zR 37), (zK 23)]), zI 39 (.load true 13 (zR 9)), zI 40 (zC 165 [(zR 39)]), zI 41 (zC 152 [(zR 40), (zK 24)]), zI 42 (.lit false 34 1 [(zR 38), (zR 41)]), zI 43 (zC 151
 [(zR 42)]), zM 11 43] [0, 0, 3, 7, 15, 0, 63, 127, 255, 511, 1023] [0, 1, 2, 3, 4, 5, 6, 7, 8, 9, 10]) (zQ [zM 44 11, zI 45 (.bin .neq (zR 44) (zK 0))] (.cond (zR 45) (zQ [zM 46 11, zI 6 (.mv (.const (.slice none 0 0))),
 zI 7 (.mv (zK 0)), zM 8 46] .ret) .skip))) (zQ [zI 47 (.load true 8 (zR 3)), zL 48 5, zI 49 (zC 169 [(zR 47), (zR 48)]), zI 12 (.alloc [(.slice none 0 0)]), zN (.store 1 (zR 12) (zR 49))] (.seq (.stop (.region [zI 51
 (.load true 13 (zR 9)), zI 52 (.mkfn 170 [(zR 5), (zR 12)]), zI 53 (zC 142 [(zR 51), (zR 52)]), zM 50 53, zI 54 (.ext (zR 50) 0), zI 55 (.ext (zR 50) 1), zM 13 54, zM 14 55])) (zQ [zM 56 13, zM 57 14, zM 6 56, zM 7 57,
 zI 8 (.mv (zK 0))] .ret)))))))
theorem low78u : lowF Tryz.prog [3, 4] Tryz.f78 = some (58, lc78u.strip, [.tmp 6, .tmp 7, .tmp 8]) := by kernel_rfl
theorem fn78u : FnOk Tryz.prog 78 58 lc78u [.tmp 6, .tmp 7, .tmp 8] := ⟨Tryz.call78, [3, 4], _, Tryz.func78, low78u⟩
end Go.Pw
set_option linter.unusedSimpArgs false
set_option linter.unusedVariables false
set_option maxHeartbeats 8000000
namespace Go.Pw
set_option maxRecDepth 2000
open Go Go.Proofs A1 A2 A3 A4
abbrev isTk (s : Si) (n : Int) : Bool := wi n 0 ((s.tk.length : Int) - 1)
def deE (s : Si) (n : Int) : Int := fstE [(siE s).2, unb (isTk s n) 6]
theorem deE.ok {s : Si} {n : Int} (h : deE s n = 0) : SiOk s ∧ 0 ≤ n ∧ n < s.tk.length := by
  rw [deE, fst2, unb_ok (by decide)] at h
  have := of_decide_eq_true h.2
  exact ⟨SiOk.of h.1, by omega, by omega⟩
theorem C79 {s : Si} {n : Int} : SiSm s → PFD Tryz.prog 79 [siv s, vi .i64 n] (.tup [.c (ints (if deE s n = 0 then depL s n s.tk.length else [])), vi .i64 (deE s n)]) := fun hs => by
  have htk := hs.tk
  have c1 := C171 hs
  have hE : fstE [(siE s).2, unb (wi n 0 ((s.tk.length : Int) - 1)) 6] = deE s n := rfl
  by_cases h0 : deE s n = 0
  rotate_left
  · rw [if_neg h0]
    generalize deE s n = E at *
    refine pi2 fn79 ?_
    (repeat' first | (refine Owe.same ?_; first | refine Owe.o ?_ | refine Owe.mk ?_ ?_) | (refine Fork.same ?_; (first | refine fkD ?_ ?_ | refine fkN ?_ ?_ | refine fkM ?_ ?_) <;> intro h) | ((first | refine OpsL.same ?_ | refine OpsDL.same ?_); first | refine pK c1 rfl rfl ?_ | refine pK C168 rfl rfl ?_ | refine pK C152 rfl rfl ?_ | refine pK C151 rfl rfl ?_) | refine MvQ.stay ?_)
    · (repeat' first | (refine Owe.same ?_; first | refine Owe.o ?_ | refine Owe.mk ?_ ?_) | (refine Fork.same ?_; (first | refine fkD ?_ ?_ | refine fkN ?_ ?_ | refine fkM ?_ ?_) <;> intro h) | refine MvQ.stay ?_)
      (refine rqK rfl ?_; (repeat' first | exact rfl | (refine qS ?_; constructor)))
      exact hE
    · exact absurd (hE.symm.trans h) h0
  · rw [if_pos h0, h0]
    obtain ⟨hO, hn⟩ := deE.ok h0
    have n6 := hO.n
    have c2 := C169 (n := n) ⟨hO, hs.t⟩
    have hdl := dpL_len (s := s) (n := n) s.tk.length
    rw [h0] at hE
    refine pi2 fn79 ?_
    (repeat' first | (refine Owe.same ?_; first | refine Owe.o ?_ | refine Owe.mk ?_ ?_) | (refine Fork.same ?_; (first | refine fkD ?_ ?_ | refine fkN ?_ ?_ | refine fkM ?_ ?_) <;> intro h) | ((first | refine OpsL.same ?_ | refine OpsDL.same ?_); first | refine pK c1 rfl rfl ?_ | refine pK C168 rfl rfl ?_ | refine pK C152 rfl rfl ?_ | refine pK C151 rfl rfl ?_) | refine MvQ.stay ?_)
    · exact absurd hE h
    (repeat' first | (refine Owe.same ?_; first | refine Owe.o ?_ | refine Owe.mk ?_ ?_) | (refine Fork.same ?_; (first | refine fkY ?_ | refine fkF ?_ | ((first | refine fkD ?_ ?_ | refine fkN ?_ ?_ | refine fkM ?_ ?_) <;> intro h))) | ((first | refine OpsL.same ?_ | refine OpsDL.same ?_); first | refine oK c2 rfl rfl rfl ?_) | refine MvQ.stay ?_)
    refine Sat.nilS 8 3 1 (fun i => r1 (([] : List Int).getD i 0)) rfl ?_
    refine Sat.lp (fun k : Nat => ⟨[(33, vi .i64 k), (32, vi .i64 (dpL s n s.tk.length).length), (31, .c (boos (dpL s n s.tk.length))), (8, .c (.ms 0 (depL s n k).length))], [(0, rowv 3 1 r1 0 (depL s n k))], 1⟩) (fun k => k ≤ s.tk.length) (fun k => s.tk.length - k) 0 [0] (Nat.zero_le _) ?_ ?_
    · (refine qis ?_ ?_ <;> (repeat' first | exact rfl | (refine qS ?_; constructor)))
    intro k hk
    have hfl : (depL s n k).length ≤ k := fltL_len (dpB s n) k
    have hfs : depL s n (k + 1) = if dpB s n k = true then depL s n k ++ [(k : Int)] else depL s n k := fltL_succ (dpB s n) k
    refine Fork.dec (fun hlt => ?_) (fun hlt => ?_)
    · have hlt : k < s.tk.length := by omega
      (repeat' first | (refine Owe.same ?_; first | refine Owe.o ?_ | refine Owe.mk ?_ ?_) | (refine Fork.same ?_; (first | refine fkD ?_ ?_ | refine fkN ?_ ?_ | refine fkM ?_ ?_) <;> intro h) | refine MvQ.stay ?_)
      · have h : dpB s n k = true := h
        rw [if_pos h] at hfs
        refine again (k + 1) [1] hlt (by omega) ?_
        rw [hfs]
        (refine qis ?_ ?_ <;> (repeat' first | exact rfl | (refine qS ?_; constructor)))
        simp
      · have h : dpB s n k = false := h
        rw [if_neg (by rw [h]; decide)] at hfs
        refine again (k + 1) [0] hlt (by omega) ?_
        rw [hfs]
        (refine qis ?_ ?_ <;> (repeat' first | exact rfl | (refine qS ?_; constructor)))
    · have : k = s.tk.length := by omega
      subst this
      (repeat' first | (refine Owe.same ?_; first | refine Owe.o ?_ | refine Owe.mk ?_ ?_) | (refine Fork.same ?_; (first | refine fkD ?_ ?_ | refine fkN ?_ ?_ | refine fkM ?_ ?_) <;> intro h) | refine MvQ.stay ?_)
      refine rqF 0 _ rfl rfl rfl ?_; (repeat' first | exact rfl | (refine qS ?_; constructor))
abbrev boosD (L : List Bool) : D := .sl 1 L.length fun i => rb (L.getD i false)
theorem C170 {n : Int} {L : List Bool} {k : Nat} : k < L.length → PFD Tryz.prog 170 [vi .i64 k, .c (.rp [dI n]), .c (.rp [boosD L])] (vbl (!decide ((k : Int) = n) && !(L.getD k false))) := fun hk => by
  obtain ⟨q, hq⟩ : ∃ q, q = (!decide ((k : Int) = n) && !(L.getD k false)) := ⟨_, rfl⟩
  rw [← hq]
  refine pi1 fn170 ?_
  (repeat' first | (refine Owe.same ?_; first | refine Owe.o ?_ | refine Owe.mk ?_ ?_) | (refine Fork.same ?_; (first | refine fkD ?_ ?_ | refine fkN ?_ ?_ | refine fkM ?_ ?_) <;> intro h) | refine MvQ.stay ?_)
  · (refine rqK rfl ?_; (repeat' first | exact rfl | (refine qS ?_; constructor)))
    rw [hq, decide_eq_false h]; rfl
  · (refine rqK rfl ?_; (repeat' first | exact rfl | (refine qS ?_; constructor)))
    rw [hq, decide_eq_true h]; rfl
def reE (s : Si) (t : St8) (n : Int) : Int := fstE [onE s t, unb (isTk s n) 6]
def rpX (s : Si) (t : St8) (n : Int) : Int := fstE [unb (!decide (n ∈ t.d)) 23, unb (reB s t) 24]
abbrev pmD (s : Si) (n : Int) (k : Nat) : Bool := !decide ((k : Int) = n) && !(dpB s n k)
def raE (s : Si) (t : St8) (n : Int) : Int := if reE s t n = 0 then rpX s t n else reE s t n
theorem C78 {s : Si} {t : St8} {n : Int} : (SiSm s ∧ t.d.length ≤ 1000000) → PFD Tryz.prog 78 [siv s, stv t, vi .i64 n] (.tup [.c (ints (if raE s t n = 0 then (bestPp (pmD s n) s t).1 else [])), vi .i64 (if raE s t n = 0 then (bestPp (pmD s n) s t).2 else 0), vi .i64 (raE s t n)]) := fun ⟨hs, hd⟩ => by
  have htk := hs.tk
  have c1 := C156 (s := s) (t := t) ⟨hs, hd⟩
  have hE : fstE [onE s t, unb (wi n 0 ((s.tk.length : Int) - 1)) 6] = reE s t n := rfl
  by_cases h0 : reE s t n = 0
  rotate_left
  · have e : raE s t n = reE s t n := if_neg h0
    rw [e, if_neg h0, if_neg h0]
    generalize reE s t n = E at *
    refine pi3 fn78u ?_
    (repeat' first | (refine Owe.same ?_; first | refine Owe.o ?_ | refine Owe.mk ?_ ?_) | (refine Fork.same ?_; (first | refine fkD ?_ ?_ | refine fkN ?_ ?_ | refine fkM ?_ ?_) <;> intro h) | ((first | refine OpsL.same ?_ | refine OpsDL.same ?_); first | refine pK c1 rfl rfl ?_ | refine pK C168 rfl rfl ?_ | refine pK C152 rfl rfl ?_ | refine pK C151 rfl rfl ?_) | refine MvQ.stay ?_)
    · (repeat' first | (refine Owe.same ?_; first | refine Owe.o ?_ | refine Owe.mk ?_ ?_) | (refine Fork.same ?_; (first | refine fkD ?_ ?_ | refine fkN ?_ ?_ | refine fkM ?_ ?_) <;> intro h) | refine MvQ.stay ?_)
      (refine rqK rfl ?_; (repeat' first | exact rfl | (refine qS ?_; constructor)))
      exact hE
    · exact absurd (hE.symm.trans h) h0
  have e : raE s t n = rpX s t n := if_pos h0
  have h0' := h0
  rw [reE, fst2, unb_ok (by decide)] at h0'
  obtain ⟨ho, hn⟩ := h0'
  have hn := of_decide_eq_true hn
  have hO := OnOk.of ho
  have c2 := C165 hO.b
  have c3 := C144 (s := s) (t := t) (n := n) hd
  rw [h0] at hE
  rw [e]
  have hX : fstE [unb (!decide (n ∈ t.d)) 23, unb (reB s t) 24] = rpX s t n := rfl
  by_cases hx : rpX s t n = 0
  rotate_left
  · rw [if_neg hx, if_neg hx]
    generalize rpX s t n = X at *
    refine pi3 fn78u ?_
    (repeat' first | (refine Owe.same ?_; first | refine Owe.o ?_ | refine Owe.mk ?_ ?_) | (refine Fork.same ?_; (first | refine fkD ?_ ?_ | refine fkN ?_ ?_ | refine fkM ?_ ?_) <;> intro h) | ((first | refine OpsL.same ?_ | refine OpsDL.same ?_); first | refine pK c1 rfl rfl ?_ | refine pK C168 rfl rfl ?_ | refine pK C152 rfl rfl ?_ | refine pK C151 rfl rfl ?_) | refine MvQ.stay ?_)
    · exact absurd hE h
    (repeat' first | (refine Owe.same ?_; first | refine Owe.o ?_ | refine Owe.mk ?_ ?_) | (refine Fork.same ?_; (first | refine fkD ?_ ?_ | refine fkN ?_ ?_ | refine fkM ?_ ?_) <;> intro h) | ((first | refine OpsL.same ?_ | refine OpsDL.same ?_); first | refine pK c2 rfl rfl ?_ | refine pK c3 rfl rfl ?_ | refine pK C152 rfl rfl ?_ | refine pK C151 rfl rfl ?_) | refine MvQ.stay ?_)
    · (repeat' first | (refine Owe.same ?_; first | refine Owe.o ?_ | refine Owe.mk ?_ ?_) | (refine Fork.same ?_; (first | refine fkD ?_ ?_ | refine fkN ?_ ?_ | refine fkM ?_ ?_) <;> intro h) | refine MvQ.stay ?_)
      (refine rqK rfl ?_; (repeat' first | exact rfl | (refine qS ?_; constructor)))
      exact hX
    · exact absurd (hX.symm.trans h) hx
  · rw [if_pos hx, if_pos hx, hx]
    have c4 := C169 (n := n) ⟨hO.ok, hs.t⟩
    have hdl := dpL_len (s := s) (n := n) s.tk.length
    have c5 := C142p (g := 170) (rows := [[dI n], [boosD (dpL s n s.tk.length)]]) (pm := pmD s n) (s := s) (t := t) (fun k hk => C170 (by omega)) ⟨hO, hs.t⟩
    generalize bestPp (pmD s n) s t = B at *
    refine pi3 fn78u ?_
    (repeat' first | (refine Owe.same ?_; first | refine Owe.o ?_ | refine Owe.mk ?_ ?_) | (refine Fork.same ?_; (first | refine fkD ?_ ?_ | refine fkN ?_ ?_ | refine fkM ?_ ?_) <;> intro h) | ((first | refine OpsL.same ?_ | refine OpsDL.same ?_); first | refine pK c1 rfl rfl ?_ | refine pK C168 rfl rfl ?_ | refine pK C152 rfl rfl ?_ | refine pK C151 rfl rfl ?_) | refine MvQ.stay ?_)
    · exact absurd hE h
    (repeat' first | (refine Owe.same ?_; first | refine Owe.o ?_ | refine Owe.mk ?_ ?_) | (refine Fork.same ?_; (first | refine fkD ?_ ?_ | refine fkN ?_ ?_ | refine fkM ?_ ?_) <;> intro h) | ((first | refine OpsL.same ?_ | refine OpsDL.same ?_); first | refine pK c2 rfl rfl ?_ | refine pK c3 rfl rfl ?_ | refine pK C152 rfl rfl ?_ | refine pK C151 rfl rfl ?_) | refine MvQ.stay ?_)
    · exact absurd (hX.trans hx) h
    (repeat' first | (refine Owe.same ?_; first | refine Owe.o ?_ | refine Owe.mk ?_ ?_) | (refine Fork.same ?_; (first | refine fkY ?_ | refine fkF ?_ | ((first | refine fkD ?_ ?_ | refine fkN ?_ ?_ | refine fkM ?_ ?_) <;> intro h))) | ((first | refine OpsL.same ?_ | refine OpsDL.same ?_); first | refine oK c4 rfl rfl rfl ?_) | refine MvQ.stay ?_)
    refine SatL.frB 8 [12] rfl rfl ?_
    refine SatL.frB 0 [5] rfl rfl ?_
    refine SatL.go ?_
    (repeat' first | (refine Owe.same ?_; first | refine Owe.o ?_ | refine Owe.mk ?_ ?_) | (refine Fork.same ?_; (first | refine fkY ?_ | refine fkF ?_ | ((first | refine fkD ?_ ?_ | refine fkN ?_ ?_ | refine fkM ?_ ?_) <;> intro h))) | ((first | refine OpsL.same ?_ | refine OpsDL.same ?_); first | refine oK c5 rfl rfl rfl ?_) | refine MvQ.stay ?_)
    (refine rqK rfl ?_; (repeat' first | exact rfl | (refine qS ?_; constructor)))
end Go.Pw
set_option linter.unusedSimpArgs false
set_option linter.unusedVariables false
set_option maxHeartbeats 8000000
namespace Go.Pw
set_option maxRecDepth 2000
open Go Go.Proofs A1 A2 A3 A4
end Go.Pw

set_option linter.unusedSimpArgs false
set_option linter.unusedVariables false
set_option maxHeartbeats 8000000
namespace Go.Pw
set_option maxRecDepth 2000
open Go Go.Proofs A1 A2 A3 A4
end Go.Pw

set_option linter.unusedSimpArgs false
set_option linter.unusedVariables false
set_option maxHeartbeats 4000000
namespace Go.Pw
set_option maxRecDepth 2000
open Go Go.Proofs A1 A2 A3 A4
theorem C58 : PFD Tryz.prog 58 [] (vbl true) := by
  have c2 := C76 (s := exSi) (t := exSt1) ⟨exSm, by decide⟩
  rw [ex3] at c2
  have c3 := C64 (s := exSi) (t := exSt) ⟨exSm, by decide⟩
  rw [ex4, if_pos rfl, if_pos rfl, ex5] at c3
  have c6 := C44 (l := [0, 2]) (m := [0, 2]) (by decide)
  rw [decide_eq_true rfl] at c6
  refine pi1 fn58 ?_
  (repeat' first | (refine Owe.same ?_; first | refine Owe.o ?_ | refine Owe.mk ?_ ?_) | (refine Fork.same ?_; (first | refine fkY ?_ | refine fkF ?_ | ((first | refine fkD ?_ ?_ | refine fkN ?_ ?_ | refine fkM ?_ ?_) <;> intro h))) | ((first | refine OpsL.same ?_ | refine OpsDL.same ?_); first | refine pK C107 rfl rfl ?_ | refine pK C108 rfl rfl ?_ | refine pK c2 rfl rfl ?_ | refine pK c3 rfl rfl ?_) | refine MvQ.stay ?_)
  ((first | refine OpsL.same ?_ | refine OpsDL.same ?_); first | refine pK c6 rfl rfl ?_)
  (repeat' first | (refine Owe.same ?_; first | refine Owe.o ?_ | refine Owe.mk ?_ ?_) | (refine Fork.same ?_; (first | refine fkY ?_ | refine fkF ?_ | ((first | refine fkD ?_ ?_ | refine fkN ?_ ?_ | refine fkM ?_ ?_) <;> intro h))) | ((first | refine OpsL.same ?_ | refine OpsDL.same ?_); first | refine oK C107 rfl rfl rfl ?_) | refine MvQ.stay ?_)
  (refine rqK rfl ?_; (repeat' first | exact rfl | (refine qS ?_; constructor)))
abbrev frSm (p : Int × Int) : Prop := (-2000000000000 ≤ p.1 ∧ p.1 ≤ 2000000000000) ∧ 0 < p.2 ∧ p.2 ≤ 10000
abbrev prOk (p : Int × Int) : Prop := (0 ≤ p.1 ∧ p.1 ≤ 10000) ∧ 0 < p.2 ∧ p.2 ≤ 10000
theorem prOk.sm {p : Int × Int} (h : prOk p) : frSm p := ⟨by omega, h.2⟩
end Go.Pw
set_option linter.unusedVariables false
set_option maxHeartbeats 2000000
set_option maxRecDepth 100000
namespace Go.Pw
open Go Go.Proofs
end Go.Pw

set_option linter.unusedSimpArgs false
set_option linter.unusedVariables false
set_option maxHeartbeats 4000000
namespace Go.Pw
set_option maxRecDepth 2000
open Go Go.Proofs A1 A2 A3 A4
end Go.Pw

set_option linter.unusedSimpArgs false
set_option linter.unusedVariables false
set_option maxHeartbeats 4000000
namespace Go.Pw
set_option maxRecDepth 2000
open Go Go.Proofs A1 A2 A3 A4
abbrev lwP (p : Int × Int) : Prop := 0 < p.2 ∧ gcdI p.1 p.2 = 1
def prcE (p : Int × Int) : Int := fstE [unl (lwP p) 3, unl (isN p.1 ∧ isN p.2) 2]
theorem prcE_ok {p : Int × Int} : prcE p = 0 ↔ lwP p ∧ isN p.1 ∧ isN p.2 := by
  rw [prcE, fst2, unl0 (by decide), unl0 (by decide)]
theorem prcE.ok {p : Int × Int} (h : prcE p = 0) : prOk p := by
  obtain ⟨h1, h2, h3⟩ := prcE_ok.1 h
  exact ⟨h2, h1.1, h3.2⟩
theorem orE.ok {s : Si} {t : St8} (h0 : orE s t = 0) : OnOk s t := by
  rw [orE] at h0
  split at h0
  · rename_i h1; exact OnOk.of h1
  · rename_i h1; exact absurd h0 h1
end Go.Pw
set_option linter.unusedSimpArgs false
set_option linter.unusedVariables false
set_option maxHeartbeats 4000000
namespace Go.Pw
set_option maxRecDepth 2000
open Go Go.Proofs A1 A2 A3 A4
end Go.Pw

set_option linter.unusedSimpArgs false
set_option linter.unusedVariables false
set_option maxHeartbeats 4000000
namespace Go.Pw
set_option maxRecDepth 2000
open Go Go.Proofs A1 A2 A3 A4
def acP (pm : Nat → Bool) (s : Si) : St8 → List Int → Prop
  | _, [] => True
  | t, n :: q => spE s t n = 0 ∧ pm n.toNat = true ∧ acP pm s (spS s t n) q
theorem acP_nn {pm : Nat → Bool} {s : Si} : ∀ {q : List Int} {t : St8}, OnOk s t → acP pm s t q → ∀ n ∈ q, (0 ≤ n ∧ n < s.tk.length) ∧ pm n.toNat = true
  | [], t, _, _, n, hn => by cases hn
  | m :: q, t, hO, h, n, hn => by
    obtain ⟨h1, h2, h3⟩ := h
    obtain ⟨⟨e, _, _, h4⟩, hO', _⟩ := spS_ok hO h1
    rcases List.mem_cons.1 hn with h | h
    · subst h; exact ⟨h4, h2⟩
    · rw [← e] at hO'; exact acP_nn hO' h3 n h
theorem acP_wk {pm pm' : Nat → Bool} {s : Si} (hp : ∀ k, pm k = true → pm' k = true) : ∀ {q : List Int} {t : St8}, acP pm s t q → acP pm' s t q
  | [], _, _ => trivial
  | _ :: _, _, ⟨h1, h2, h3⟩ => ⟨h1, hp _ h2, acP_wk hp h3⟩
theorem acP_len {pm : Nat → Bool} {s : Si} : ∀ {q : List Int} {t : St8}, OnOk s t → acP pm s t q → t.d.length + q.length ≤ s.tk.length
  | [], t, hO, _ => hO.dl
  | m :: q, t, hO, ⟨h1, h2, h3⟩ => by
    obtain ⟨⟨e, _, _, h4⟩, hO', hl⟩ := spS_ok hO h1
    rw [← e] at hO' hl
    have := acP_len hO' h3
    rw [List.length_cons]; omega
def bfL : List Int → List Int → Bool
  | [], [] => false
  | [], _ :: _ => true
  | _ :: _, [] => false
  | a :: l, b :: m => if a = b then bfL l m else decide (a < b)
structure GpS (pm : Nat → Bool) (s : Si) (t : St8) (p : List Int) (b R : List Int × Int) (ok : List Int → Prop) : Prop where
  ge : b.2 ≤ R.2
  all : ∀ q, acP pm s t q → ok q → vaI s (p ++ q) ≤ R.2
  is : R = b ∨ ∃ q, acP pm s t q ∧ ok q ∧ R = (p ++ q, vaI s (p ++ q)) ∧ b.2 < R.2 ∧ ∀ q', acP pm s t q' → ok q' → vaI s (p ++ q') = R.2 → bfL q' q = false
theorem gp_spec {pm : Nat → Bool} {s : Si} : ∀ (f : Nat) (t : St8) (p : List Int) (b : List Int × Int), OnOk s t → s.tk.length ≤ t.d.length + f → GpS pm s t p b (gpF pm s f t p b) (fun _ => True)
  | f, t, p, b, hO, hf => by
    have hu : GpS pm s t p b (updP s p b) (fun q => q = []) := by
      rw [updP]
      split
      · refine ⟨by show b.2 ≤ vaI s p; omega, fun q _ hq => by subst hq; rw [List.append_nil]; exact Int.le_refl _, .inr ⟨[], trivial, rfl, by rw [List.append_nil], by assumption, fun q' _ h _ => by subst h; rfl⟩⟩
      · refine ⟨Int.le_refl _, fun q _ hq => by subst hq; rw [List.append_nil]; omega, .inl rfl⟩
    match f with
    | 0 =>
      rw [gpF]
      have hn : ∀ q, acP pm s t q → q = [] := fun q hq => by
        have := acP_len hO hq
        cases q with
        | nil => rfl
        | cons a q => rw [List.length_cons] at this; omega
      refine ⟨hu.ge, fun q hq _ => hu.all q hq (hn q hq), ?_⟩
      rcases hu.is with h | ⟨q, a, c, d, e, g⟩
      · exact .inl h
      · exact .inr ⟨q, a, trivial, d, e, fun q' a' _ => g q' a' (hn q' a')⟩
    | f + 1 =>
      rw [gpF]
      generalize updP s p b = u at *
      have key : ∀ k, k ≤ s.tk.length → GpS pm s t p u (gpK pm s f t p u k) (fun q => ∃ a l, q = a :: l ∧ a < k) := fun k => by
        induction k with
        | zero =>
          intro _
          rw [gpK]
          refine ⟨Int.le_refl _, fun q hq ⟨a, l, e, ha⟩ => ?_, .inl rfl⟩
          subst e
          have := (acP_nn hO hq a (List.mem_cons_self ..)).1
          omega
        | succ k ih =>
          intro hk
          have ih := ih (by omega)
          rw [gpK]
          have hno : ¬ (pm k = true ∧ spE s t k = 0) → GpS pm s t p u (gpK pm s f t p u k) (fun q => ∃ a l, q = a :: l ∧ a < ((k + 1 : Nat) : Int)) := fun hc => by
            have hlt : ∀ q, acP pm s t q → (∃ a l, q = a :: l ∧ a < ((k + 1 : Nat) : Int)) → ∃ a l, q = a :: l ∧ a < (k : Int) := fun q hq ⟨a, l, e, ha⟩ => by
              refine ⟨a, l, e, ?_⟩
              rcases Int.lt_or_le a k with h | h
              · exact h
              · have : a = k := by omega
                subst this; subst e
                exact absurd ⟨by have := hq.2.1; rwa [Int.toNat_natCast] at this, hq.1⟩ hc
            refine ⟨ih.ge, fun q hq ho => ih.all q hq (hlt q hq ho), ?_⟩
            rcases ih.is with h | ⟨q, a, ⟨a0, l0, e0, h0⟩, d, e, g⟩
            · exact .inl h
            · exact .inr ⟨q, a, ⟨a0, l0, e0, by omega⟩, d, e, fun q' a' o' => g q' a' (hlt q' a' o')⟩
          split
          · rename_i hc
            have hc' : pm k = true ∧ spE s t k = 0 := by
              first | exact hc | exact ⟨hc.2, hc.1⟩
            obtain ⟨⟨e, _, _, h4⟩, hO', hl⟩ := spS_ok hO hc'.2
            rw [← e] at hO' hl
            have sub := gp_spec (pm := pm) f (spS s t k) (p ++ [(k : Int)]) (gpK pm s f t p u k) hO' (by omega)
            generalize gpK pm s f t p u k = A at *
            generalize gpF pm s f (spS s t k) (p ++ [(k : Int)]) A = R at *
            have ea : ∀ q, p ++ [(k : Int)] ++ q = p ++ (k : Int) :: q := fun q => by simp
            have hcons : ∀ q, acP pm s t ((k : Int) :: q) → acP pm s (spS s t k) q := fun q h => h.2.2
            refine ⟨Int.le_trans ih.ge sub.ge, fun q hq ⟨a, l, e1, ha⟩ => ?_, ?_⟩
            · subst e1
              rcases Int.lt_or_le a k with h | h
              · exact Int.le_trans (ih.all _ hq ⟨a, l, rfl, h⟩) sub.ge
              · have : a = k := by omega
                subst this
                have := sub.all l hq.2.2 trivial
                rwa [ea] at this
            · rcases sub.is with h | ⟨q, a, _, d, e1, g⟩
              · rw [h]
                rcases ih.is with h1 | ⟨q, a, ⟨a0, l0, e0, h0⟩, d, e1, g⟩
                · exact .inl h1
                · refine .inr ⟨q, a, ⟨a0, l0, e0, by omega⟩, d, e1, fun q' a' ⟨a1, l1, e2, h2⟩ hv => ?_⟩
                  rcases Int.lt_or_le a1 k with h | h
                  · exact g q' a' ⟨a1, l1, e2, h⟩ hv
                  · subst e2; subst e0
                    rw [bfL, if_neg (by omega)]
                    exact decide_eq_false (by omega)
              · refine .inr ⟨(k : Int) :: q, ⟨hc'.2, by rw [Int.toNat_natCast]; exact hc'.1, a⟩, ⟨k, q, rfl, by omega⟩, by rw [← ea]; exact d, Int.lt_of_le_of_lt ih.ge e1, fun q' a' ⟨a1, l1, e2, h2⟩ hv => ?_⟩
                subst e2
                rcases Int.lt_or_le a1 k with h | h
                · have := ih.all _ a' ⟨a1, l1, rfl, h⟩
                  omega
                · have : a1 = k := by omega
                  subst this
                  rw [bfL, if_pos rfl]
                  exact g l1 a'.2.2 trivial (by rw [ea]; exact hv)
          · rename_i hc
            exact hno (by first | exact hc | exact fun h => hc ⟨h.2, h.1⟩)
      have kk := key s.tk.length (Nat.le_refl _)
      generalize gpK pm s f t p u s.tk.length = R at *
      have split : ∀ q, acP pm s t q → q = [] ∨ ∃ a l, q = a :: l ∧ a < (s.tk.length : Int) := fun q hq => by
        cases q with
        | nil => exact .inl rfl
        | cons a l => exact .inr ⟨a, l, rfl, (acP_nn hO hq a (List.mem_cons_self ..)).1.2⟩
      refine ⟨Int.le_trans hu.ge kk.ge, fun q hq _ => ?_, ?_⟩
      · rcases split q hq with h | h
        · exact Int.le_trans (hu.all q hq h) kk.ge
        · exact kk.all q hq h
      · rcases kk.is with h | ⟨q, a, o, d, e, g⟩
        · rw [h]
          rcases hu.is with h1 | ⟨q, a, o, d, e, g⟩
          · exact .inl h1
          · subst o
            refine .inr ⟨[], a, trivial, d, e, fun q' _ _ _ => ?_⟩
            cases q' <;> rfl
        · refine .inr ⟨q, a, trivial, d, Int.lt_of_le_of_lt hu.ge e, fun q' a' _ hv => ?_⟩
          rcases split q' a' with h | h
          · subst h
            have := hu.all [] trivial rfl
            omega
          · exact g q' a' h hv
theorem acP_pr {s : Si} : ∀ {q : List Int} {t : St8}, acP (fun _ => true) s t q ↔ (prE s t q).2 = 0
  | [], t => ⟨fun _ => rfl, fun _ => trivial⟩
  | n :: q, t => by
    have hst : ∀ i, stK s t (n :: q) (i + 1) = stK s (spS s t n) q i := fun i => by
      induction i with
      | zero => rfl
      | succ i ih => rw [stK, ih, stK]; rfl
    rw [acP, acP_pr, prE, prE, eachN_ok, eachN_ok]
    constructor
    · rintro ⟨h1, _, h3⟩ i hi
      match i with
      | 0 => exact h1
      | i + 1 => rw [sfK, hst]; exact h3 i (by rw [List.length_cons] at hi; omega)
    · intro h
      refine ⟨h 0 (by rw [List.length_cons]; omega), rfl, fun i hi => ?_⟩
      have := h (i + 1) (by rw [List.length_cons]; omega)
      rw [sfK, hst] at this; exact this
theorem best_is {pm : Nat → Bool} {s : Si} {t : St8} (hO : OnOk s t) : acP pm s t (bestPp pm s t).1 ∧ vaI s (bestPp pm s t).1 = (bestPp pm s t).2 ∧ (∀ q, acP pm s t q → vaI s q ≤ (bestPp pm s t).2) ∧ ∀ q, acP pm s t q → vaI s q = (bestPp pm s t).2 → bfL q (bestPp pm s t).1 = false := by
  have h := gp_spec (pm := pm) (s.tk.length + 1) t [] ([], 0) hO (by omega)
  change GpS pm s t [] ([], 0) (bestPp pm s t) _ at h
  generalize bestPp pm s t = R at *
  have ha := h.all
  rcases h.is with e | ⟨q, a, _, d, e, g⟩
  · subst e
    exact ⟨trivial, rfl, fun q hq => ha q hq trivial, fun q _ _ => by cases q <;> rfl⟩
  · simp only [List.nil_append] at d g
    subst d
    exact ⟨a, rfl, fun q hq => ha q hq trivial, fun q hq hv => g q hq trivial hv⟩
theorem dpB_tr {s : Si} {n : Int} {m : Int} (hO : SiOk s) (hm : 0 ≤ m) (h : dpB s n m.toNat = true) : ∀ i : Nat, i < s.tk.length → dpB s m i = true → dpB s n i = true := fun i => by
  induction i using Nat.strongRecOn with
  | ind i ih =>
    intro hi hb
    rw [dpB_eq hO hi, List.any_eq_true] at hb
    rw [dpB_eq hO hi, List.any_eq_true]
    obtain ⟨x, hx, h1⟩ := hb
    refine ⟨x, hx, ?_⟩
    obtain ⟨s1, s2⟩ := Srt.of (hO.t i hi).a
    obtain ⟨j, hj, e⟩ := List.getElem_of_mem hx
    have h2 := s2 j hj
    rw [List.getD_eq_getElem?_getD, List.getElem?_eq_getElem hj, Option.getD_some, e] at h2
    rw [Bool.or_eq_true] at h1 ⊢
    right
    rcases h1 with h1 | h1
    · have := of_decide_eq_true h1
      subst this; exact h
    · exact ih x.toNat (by omega) (by omega) h1
end Go.Pw
set_option linter.unusedSimpArgs false
set_option linter.unusedVariables false
set_option maxHeartbeats 2000000
namespace Go.Pw
set_option maxRecDepth 2000
open Go Go.Proofs A1 A2 A3 A4
end Go.Pw

set_option linter.unusedSimpArgs false
set_option linter.unusedVariables false
set_option maxHeartbeats 4000000
namespace Go.Pw
set_option maxRecDepth 2000
open Go Go.Proofs A1 A2 A3 A4
structure DpF (s : Si) (m : Int) (p : List Int) (D : List Int) : Prop where
  lo : ∀ k, k < D.length → m < D.getD k 0 ∧ D.getD k 0 < s.tk.length
  no : ∀ k, k < D.length → D.getD k 0 ∉ p
  e : ∀ k, k < D.length → deE s (D.getD k 0) = 0
  tr : ∀ k, k < D.length → ∀ x ∈ depL s (D.getD k 0) s.tk.length, x ∈ D
  me : m ∉ p
theorem dep_is {s : Si} {m : Int} {k : Nat} (hk : k < (depL s m s.tk.length).length) : ∃ i : Nat, (depL s m s.tk.length).getD k 0 = i ∧ i < s.tk.length ∧ dpB s m i = true := by
  have h : (depL s m s.tk.length).getD k 0 ∈ depL s m s.tk.length := getD_mem _ hk
  obtain ⟨i, _, e⟩ := List.mem_map.1 h
  rw [← e] at h ⊢
  exact ⟨i, rfl, fltL_mem.1 h⟩
theorem DpF.of {s : Si} {t : St8} {m : Int} (hO : OnOk s t) (h0 : (siE s).2 = 0) (hm : 0 ≤ m ∧ m < s.tk.length) : DpF s m (bestPp (pmD s m) s t).1 (depL s m s.tk.length) := by
  have hb := (best_is (pm := pmD s m) hO).1
  have hp : ∀ n ∈ (bestPp (pmD s m) s t).1, (0 ≤ n ∧ n < s.tk.length) ∧ n ≠ m ∧ dpB s m n.toNat = false := fun n hn => by
    obtain ⟨h1, h2⟩ := acP_nn hO hb n hn
    rw [pmD, Bool.and_eq_true, Bool.not_eq_true', Bool.not_eq_true', decide_eq_false_iff_not] at h2
    exact ⟨h1, by omega, h2.2⟩
  refine ⟨fun k hk => ?_, fun k hk hn => ?_, fun k hk => ?_, fun k hk x hx => ?_, fun h => (hp m h).2.1 rfl⟩
  · obtain ⟨i, e, h1, h2⟩ := dep_is hk
    rw [e]
    refine ⟨?_, by omega⟩
    rcases Int.lt_or_le m i with h | h
    · exact h
    · rw [dpB_lo hO.ok i h1 h] at h2; cases h2
  · obtain ⟨i, e, h1, h2⟩ := dep_is hk
    rw [e] at hn
    have := (hp _ hn).2.2
    rw [Int.toNat_natCast, h2] at this; cases this
  · obtain ⟨i, e, h1, h2⟩ := dep_is hk
    rw [e, deE, h0]
    have : isTk s i = true := by
      simp only [isTk, wi, decide_eq_true_eq]; omega
    rw [this]; rfl
  · obtain ⟨i, e, h1, h2⟩ := dep_is hk
    rw [e] at hx
    obtain ⟨j, _, ej⟩ := List.mem_map.1 hx
    subst ej
    obtain ⟨h3, h4⟩ := fltL_mem.1 hx
    exact fltL_mem.2 ⟨h3, dpB_tr (m := i) hO.ok (by omega) (by rw [Int.toNat_natCast]; exact h2) j h3 h4⟩
end Go.Pw
set_option linter.unusedVariables false
namespace Go.Pw
open Go Go.RowKit
theorem pfd_below {P : Program} {f : FuncId} {args : List V} {v : V} (hent : Ent1 P f)
    (h : ∀ (Γ : Cx) (w : World) (us : Array Value), StoreOk Γ w [] → RepL Γ w args us → Calls P f us w fun e w' => ∃ u, e = .returned u ∧ Below w.heap.size w w' ∧ RepV ⟨fun k => Γ.I k ∨ (w.heap.size ≤ k ∧ k < w'.heap.size), Γ.ρ, Γ.κ⟩ w' v u) : PFD P f args v := by
  refine ⟨hent, Nat.le_refl _, fun Γ w us hst hno hr => (h Γ w us hst hr).mono fun e w' ⟨u, he, hB, hv⟩ => ⟨u, _, he, hv, storeOk_nil (fun k hk => ?_) (hst.lay.mono (fun _ h => .inl h) fun k hI => hB.block k (hst.im k hI)), ⟨fun k h => .inl h, fun _ _ h => h, fun _ _ _ => rfl⟩, fun _ _ => ⟨rfl, rfl⟩,
    ⟨hB.os, hB.tape, hB.output, hB.size, fun k h => .inl h, fun k h => ?_, fun _ _ => rfl, fun _ _ => rfl, fun k hk _ => hB.block k hk, fun k h => absurd h not_live_nil⟩⟩⟩
  · rcases hk with hk | hk
    · exact Nat.lt_of_lt_of_le (hst.im k hk) hB.size
    · exact hk.2
  · rcases h with h | h
    · exact .inl h
    · exact .inr (.inl h.1)
theorem RepL.one {Γ : Cx} {w : World} {a : V} {us : Array Value} (h : RepL Γ w [a] us) : ∃ u, us = #[u] ∧ RepV Γ w a u := by
  obtain ⟨us⟩ := us
  have h1 := h.1
  match us, h1 with
  | [u], _ => exact ⟨u, rfl, h.2 0 _ _ rfl rfl⟩
theorem RepL.two {Γ : Cx} {w : World} {a b : V} {us : Array Value} (h : RepL Γ w [a, b] us) : ∃ u v, us = #[u, v] ∧ RepV Γ w a u ∧ RepV Γ w b v := by
  obtain ⟨us⟩ := us
  have h1 := h.1
  match us, h1 with
  | [u, v], _ => exact ⟨u, v, rfl, h.2 0 _ _ rfl rfl, h.2 1 _ _ rfl rfl⟩
theorem LayOk.cell {I : Nat → Prop} {w : World} (h : LayOk I w) : ∃ W0, LaidW W0 ∧ (∀ a v, W0.cell? a = some v → w.cell? a = some v) ∧ ∀ k, k < W0.heap.size → w.heap[k]? = W0.heap[k]? := by
  obtain ⟨W0, h1, h2⟩ := h
  refine ⟨W0, h1, fun a v hv => ?_, fun k hk => (h2 k hk).2⟩
  have hb := World.block_lt_of_cell? _ _ hv
  have e := (h2 _ hb).2
  rw [← hv]
  simp only [World.cell?, e]
end Go.Pw
set_option linter.unusedSimpArgs false
set_option linter.unusedVariables false
set_option maxHeartbeats 2000000
set_option maxRecDepth 100000
namespace Go.Pw
open Go Go.RowKit Go.Sort Go.Lib Go.Shelf
open Go.Proofs
def sh_lays156_ren : Go.Shelf.Ren := ⟨fun | 156 => 93 | 165 => 182 | 166 => 183 | 169 => 184 | 240 => 245 | 241 => 246 | 276 => 275 | 277 => 276 | n => n, fun | 31 => 158 | 9 => 9 | 3 => 3 | 4 => 4 | 0 => 0 | 20 => 20 | 72 => 255 | 76 => 259 | 70 => 252 | 37 => 253 | 75 => 258 | 127 => 305 | 164 => 328 | 5 => 5 | 80 => 261 | n => n, fun | n => n⟩
theorem sh_lays156 : Go.Proofs.Lays.n156 Tryz.prog sh_lays156_ren := {
  mixed := by kernel_rfl
  f156 := Tryz.func93.trans (congrArg some (by kernel_rfl))
  f165 := Tryz.func182.trans (congrArg some (by kernel_rfl))
  f166 := Tryz.func183.trans (congrArg some (by kernel_rfl))
  f169 := Tryz.func184.trans (congrArg some (by kernel_rfl))
  f240 := Tryz.func245.trans (congrArg some (by kernel_rfl))
  f241 := Tryz.func246.trans (congrArg some (by kernel_rfl))
  f276 := Tryz.func275.trans (congrArg some (by kernel_rfl))
  f277 := Tryz.func276.trans (congrArg some (by kernel_rfl))
  t0 := Tryz.underlying0
  a0 := Tryz.isAgg0
  z0 := Tryz.sizeOf0
  v0 := Tryz.zeroValue0
  t3 := Tryz.underlying3
  a3 := Tryz.isAgg3
  z3 := Tryz.sizeOf3
  v3 := Tryz.zeroValue3
  t4 := Tryz.underlying4
  a4 := Tryz.isAgg4
  z4 := Tryz.sizeOf4
  v4 := Tryz.zeroValue4
  t9 := Tryz.underlying9
  a9 := Tryz.isAgg9
  z9 := Tryz.sizeOf9
  v9 := Tryz.zeroValue9
  t20 := Tryz.underlying20
  a20 := Tryz.isAgg20
  z20 := Tryz.sizeOf20
  v20 := Tryz.zeroValue20
  t31 := Tryz.underlying158
  a31 := Tryz.isAgg158
  z31 := Tryz.sizeOf158
  v31 := Tryz.zeroValue158
  t37 := Tryz.underlying253
  a37 := Tryz.isAgg253
  z37 := Tryz.sizeOf253
  v37 := Tryz.zeroValue253
  t70 := Tryz.underlying252
  a70 := Tryz.isAgg252
  z70 := Tryz.sizeOf252
  v70 := Tryz.zeroValue252
  t72 := Tryz.underlying255
  a72 := Tryz.isAgg255
  z72 := Tryz.sizeOf255
  v72 := Tryz.zeroValue255
  t75 := Tryz.underlying258
  a75 := Tryz.isAgg258
  z75 := Tryz.sizeOf258
  v75 := Tryz.zeroValue258
  t76 := Tryz.underlying259
  a76 := Tryz.isAgg259
  z76 := Tryz.sizeOf259
  v76 := Tryz.zeroValue259
  t127 := Tryz.underlying305
  a127 := Tryz.isAgg305
  z127 := Tryz.sizeOf305
  v127 := Tryz.zeroValue305
  t164 := Tryz.underlying328
  a164 := Tryz.isAgg328
  z164 := Tryz.sizeOf328
  v164 := Tryz.zeroValue328 }
theorem sh_Builder_Extra_156 : Builder.Extra Tryz.prog sh_lays156_ren := {
  sizeBuilder := by kernel_rfl
  liesBuilder := by kernel_rfl
  t5 := Tryz.underlying5
  a5 := Tryz.isAgg5
  z5 := Tryz.sizeOf5
  v5 := Tryz.zeroValue5
  infoByte := by kernel_rfl
  cellsByte := by kernel_rfl
  sizeByte := by kernel_rfl
  neB5 := by decide }
theorem sh_strings_Join_none (a : Option Addr) (c : Nat) (sep : ByteArray) (w : World) :
    Calls Tryz.prog 93 #[.slice a 0 c, .string sep] w fun e w' => e = .returned (.string ⟨#[]⟩) ∧ w' = w := Any.strings_Join_none sh_lays156 sh_Builder_Extra_156 a c sep w
theorem sh_strings_Join (bk o c : Nat) (xs : List ByteArray) (sep : ByteArray) (w : World) (hcells : ∀ (j : Nat) x, xs[j]? = some x → w.cell? ⟨bk, o + j, none⟩ = some (.string x)) (hbk : bk < w.heap.size) (hN : xs.length ≤ 140737488355328) (hcap : xs.length ≤ c) (hlen : (Lib.join (xs.map (·.data.toList)) sep.data.toList).length ≤ 140737488355328) :
    Calls Tryz.prog 93 #[.slice (some ⟨bk, o, none⟩) xs.length c, .string sep] w fun e w' => e = .returned (.string ⟨(Lib.join (xs.map (·.data.toList)) sep.data.toList).toArray⟩) ∧ Below w.heap.size w w' := Any.strings_Join sh_lays156 sh_Builder_Extra_156 bk o c xs sep w hcells hbk hN hcap hlen
def sh_laysM171_ren : Go.Shelf.Ren := ⟨fun | 171 => 181 | 243 => 244 | 246 => 274 | 283 => 296 | 284 => 297 | 285 => 298 | 286 => 299 | 129 => 307 | 317 => 306 | 318 => 308 | 319 => 309 | 320 => 310 | 337 => 314 | 338 => 315 | n => n, fun | 3 => 3 | 9 => 9 | 2 => 2 | 4 => 4 | 171 => 342 | 0 => 0 | 53 => 298 | 37 => 253 | 5 => 5 | 173 => 345 | 212 => 361 | 51 => 357 | 20 => 20 | 213 => 362 | 46 => 316 | 232 => 370 | 233 => 371 | n => n, fun | 17 => 5 | 18 => 6 | 19 => 7 | n => n⟩
theorem sh_laysM171 : Go.Proofs.LaysM.n171 Tryz.prog sh_laysM171_ren := {
  mixed := by kernel_rfl
  f129 := Tryz.func307.trans (congrArg some (by kernel_rfl))
  f171 := Tryz.func181.trans (congrArg some (by kernel_rfl))
  f243 := Tryz.func244.trans (congrArg some (by kernel_rfl))
  f246 := Tryz.func274.trans (congrArg some (by kernel_rfl))
  f283 := Tryz.func296.trans (congrArg some (by kernel_rfl))
  f284 := Tryz.func297.trans (congrArg some (by kernel_rfl))
  f285 := Tryz.func298.trans (congrArg some (by kernel_rfl))
  f286 := Tryz.func299.trans (congrArg some (by kernel_rfl))
  f317 := Tryz.func306.trans (congrArg some (by kernel_rfl))
  f318 := Tryz.func308.trans (congrArg some (by kernel_rfl))
  f319 := Tryz.func309.trans (congrArg some (by kernel_rfl))
  f320 := Tryz.func310.trans (congrArg some (by kernel_rfl))
  f337 := Tryz.func314.trans (congrArg some (by kernel_rfl))
  f338 := Tryz.func315.trans (congrArg some (by kernel_rfl))
  t0 := Tryz.underlying0
  a0 := Tryz.isAgg0
  z0 := Tryz.sizeOf0
  v0 := Tryz.zeroValue0
  t2 := Tryz.underlying2
  a2 := Tryz.isAgg2
  z2 := Tryz.sizeOf2
  v2 := Tryz.zeroValue2
  t3 := Tryz.underlying3
  a3 := Tryz.isAgg3
  z3 := Tryz.sizeOf3
  v3 := Tryz.zeroValue3
  t4 := Tryz.underlying4
  a4 := Tryz.isAgg4
  z4 := Tryz.sizeOf4
  v4 := Tryz.zeroValue4
  t5 := Tryz.underlying5
  a5 := Tryz.isAgg5
  z5 := Tryz.sizeOf5
  v5 := Tryz.zeroValue5
  t9 := Tryz.underlying9
  a9 := Tryz.isAgg9
  z9 := Tryz.sizeOf9
  v9 := Tryz.zeroValue9
  t20 := Tryz.underlying20
  a20 := Tryz.isAgg20
  z20 := Tryz.sizeOf20
  v20 := Tryz.zeroValue20
  t37 := Tryz.underlying253
  a37 := Tryz.isAgg253
  z37 := Tryz.sizeOf253
  v37 := Tryz.zeroValue253
  t46 := Tryz.underlying316
  a46 := Tryz.isAgg316
  z46 := Tryz.sizeOf316
  v46 := Tryz.zeroValue316
  t51 := Tryz.underlying357
  a51 := Tryz.isAgg357
  z51 := Tryz.sizeOf357
  v51 := Tryz.zeroValue357
  t53 := Tryz.underlying298
  a53 := Tryz.isAgg298
  z53 := Tryz.sizeOf298
  v53 := Tryz.zeroValue298
  t171 := Tryz.underlying342
  a171 := Tryz.isAgg342
  z171 := Tryz.sizeOf342
  v171 := Tryz.zeroValue342
  t173 := Tryz.underlying345
  a173 := Tryz.isAgg345
  z173 := Tryz.sizeOf345
  v173 := Tryz.zeroValue345
  t212 := Tryz.underlying361
  a212 := Tryz.isAgg361
  z212 := Tryz.sizeOf361
  v212 := Tryz.zeroValue361
  t213 := Tryz.underlying362
  a213 := Tryz.isAgg362
  z213 := Tryz.sizeOf362
  t232 := Tryz.underlying370
  a232 := Tryz.isAgg370
  z232 := Tryz.sizeOf370
  v232 := Tryz.zeroValue370
  t233 := Tryz.underlying371
  a233 := Tryz.isAgg371
  z233 := Tryz.sizeOf371
  v233 := Tryz.zeroValue371
  g17 := by kernel_rfl
  g18 := by kernel_rfl
  g19 := by kernel_rfl
  i0 := by kernel_rfl
  i2 := by kernel_rfl
  i3 := by kernel_rfl
  i4 := by kernel_rfl
  i5 := by kernel_rfl
  i9 := by kernel_rfl
  i20 := by kernel_rfl
  i37 := by kernel_rfl
  i46 := by kernel_rfl
  i51 := by kernel_rfl
  i53 := by kernel_rfl
  i171 := by kernel_rfl
  i173 := by kernel_rfl
  i212 := by kernel_rfl
  i232 := by kernel_rfl
  i233 := by kernel_rfl
  m17 := by kernel_rfl
  m18 := by kernel_rfl
  m19 := by kernel_rfl }
theorem sh_strconv_Itoa (n : Int) (h0 : -9223372036854775808 ≤ n) (h1 : n ≤ 9223372036854775807) (w : World) (h5 : ∃ t fr, w.heap[5]? = some (.cells (Lib.pow10Tab.map fun z => Value.int .u64 z).toArray t fr)) :
    Calls Tryz.prog 181 #[.int .i64 n] w fun e w' => e = .returned (.string ⟨(Lib.itoa n).toArray⟩) ∧ ∃ k os, w' = grow (w.drewN k) os := by
  obtain ⟨t, fr, h5⟩ := h5
  refine Any.strconv_Itoa sh_laysM171 n h0 h1 w ?_
  unfold Lib.TabIs World.var?
  rw [sh_laysM171.m17]
  show (match w.heap[5]? with | some (.cells cs _ _) => some cs | _ => none) = _
  rw [h5]
def sh_laysC172_ren : Go.Shelf.Ren := ⟨fun | 172 => 191 | 244 => 251 | 245 => 252 | 247 => 279 | 279 => 280 | 280 => 281 | 281 => 282 | 282 => 283 | 287 => 300 | 316 => 301 | 171 => 181 | 205 => 302 | 321 => 311 | 322 => 312 | 243 => 244 | 246 => 274 | 283 => 296 | 284 => 297 | 285 => 298 | 286 => 299 | 129 => 307 | 317 => 306 | 318 => 308 | 319 => 309 | 320 => 310 | 337 => 314 | 338 => 315 | n => n, fun | 9 => 9 | 3 => 3 | 75 => 258 | 76 => 259 | 4 => 4 | 5 => 5 | 167 => 333 | 37 => 253 | 0 => 0 | 85 => 334 | 2 => 2 | 168 => 336 | 53 => 298 | 175 => 347 | 46 => 316 | 210 => 351 | 127 => 305 | 145 => 367 | 143 => 365 | 21 => 21 | 171 => 342 | 173 => 345 | 212 => 361 | 51 => 357 | 20 => 20 | 213 => 362 | 232 => 370 | 233 => 371 | 80 => 261 | n => n, fun | 15 => 1 | 16 => 2 | 17 => 5 | 18 => 6 | 19 => 7 | n => n⟩
theorem sh_laysC172 : Go.Proofs.LaysC.n172 Tryz.prog sh_laysC172_ren := {
  mixed := by kernel_rfl
  f129 := Tryz.func307.trans (congrArg some (by kernel_rfl))
  f171 := Tryz.func181.trans (congrArg some (by kernel_rfl))
  f172 := Tryz.func191.trans (congrArg some (by kernel_rfl))
  f205 := Tryz.func302.trans (congrArg some (by kernel_rfl))
  f243 := Tryz.func244.trans (congrArg some (by kernel_rfl))
  f244 := Tryz.func251.trans (congrArg some (by kernel_rfl))
  f245 := Tryz.func252.trans (congrArg some (by kernel_rfl))
  f246 := Tryz.func274.trans (congrArg some (by kernel_rfl))
  f247 := Tryz.func279.trans (congrArg some (by kernel_rfl))
  f279 := Tryz.func280.trans (congrArg some (by kernel_rfl))
  f280 := Tryz.func281.trans (congrArg some (by kernel_rfl))
  f281 := Tryz.func282.trans (congrArg some (by kernel_rfl))
  f282 := Tryz.func283.trans (congrArg some (by kernel_rfl))
  f283 := Tryz.func296.trans (congrArg some (by kernel_rfl))
  f284 := Tryz.func297.trans (congrArg some (by kernel_rfl))
  f285 := Tryz.func298.trans (congrArg some (by kernel_rfl))
  f286 := Tryz.func299.trans (congrArg some (by kernel_rfl))
  f287 := Tryz.func300.trans (congrArg some (by kernel_rfl))
  f316 := Tryz.func301.trans (congrArg some (by kernel_rfl))
  f317 := Tryz.func306.trans (congrArg some (by kernel_rfl))
  f318 := Tryz.func308.trans (congrArg some (by kernel_rfl))
  f319 := Tryz.func309.trans (congrArg some (by kernel_rfl))
  f320 := Tryz.func310.trans (congrArg some (by kernel_rfl))
  f321 := Tryz.func311.trans (congrArg some (by kernel_rfl))
  f322 := Tryz.func312.trans (congrArg some (by kernel_rfl))
  f337 := Tryz.func314.trans (congrArg some (by kernel_rfl))
  f338 := Tryz.func315.trans (congrArg some (by kernel_rfl))
  t0 := Tryz.underlying0
  a0 := Tryz.isAgg0
  z0 := Tryz.sizeOf0
  v0 := Tryz.zeroValue0
  t2 := Tryz.underlying2
  a2 := Tryz.isAgg2
  z2 := Tryz.sizeOf2
  v2 := Tryz.zeroValue2
  t3 := Tryz.underlying3
  a3 := Tryz.isAgg3
  z3 := Tryz.sizeOf3
  v3 := Tryz.zeroValue3
  t4 := Tryz.underlying4
  a4 := Tryz.isAgg4
  z4 := Tryz.sizeOf4
  v4 := Tryz.zeroValue4
  t5 := Tryz.underlying5
  a5 := Tryz.isAgg5
  z5 := Tryz.sizeOf5
  v5 := Tryz.zeroValue5
  t9 := Tryz.underlying9
  a9 := Tryz.isAgg9
  z9 := Tryz.sizeOf9
  v9 := Tryz.zeroValue9
  t20 := Tryz.underlying20
  a20 := Tryz.isAgg20
  z20 := Tryz.sizeOf20
  v20 := Tryz.zeroValue20
  t21 := Tryz.underlying21
  a21 := Tryz.isAgg21
  z21 := Tryz.sizeOf21
  v21 := Tryz.zeroValue21
  t37 := Tryz.underlying253
  a37 := Tryz.isAgg253
  z37 := Tryz.sizeOf253
  v37 := Tryz.zeroValue253
  t46 := Tryz.underlying316
  a46 := Tryz.isAgg316
  z46 := Tryz.sizeOf316
  v46 := Tryz.zeroValue316
  t51 := Tryz.underlying357
  a51 := Tryz.isAgg357
  z51 := Tryz.sizeOf357
  v51 := Tryz.zeroValue357
  t53 := Tryz.underlying298
  a53 := Tryz.isAgg298
  z53 := Tryz.sizeOf298
  v53 := Tryz.zeroValue298
  t75 := Tryz.underlying258
  a75 := Tryz.isAgg258
  z75 := Tryz.sizeOf258
  v75 := Tryz.zeroValue258
  t76 := Tryz.underlying259
  a76 := Tryz.isAgg259
  z76 := Tryz.sizeOf259
  v76 := Tryz.zeroValue259
  t85 := Tryz.underlying334
  a85 := Tryz.isAgg334
  z85 := Tryz.sizeOf334
  v85 := Tryz.zeroValue334
  t127 := Tryz.underlying305
  a127 := Tryz.isAgg305
  z127 := Tryz.sizeOf305
  v127 := Tryz.zeroValue305
  t143 := Tryz.underlying365
  a143 := Tryz.isAgg365
  z143 := Tryz.sizeOf365
  v143 := Tryz.zeroValue365
  t145 := Tryz.underlying367
  a145 := Tryz.isAgg367
  z145 := Tryz.sizeOf367
  v145 := Tryz.zeroValue367
  t167 := Tryz.underlying333
  a167 := Tryz.isAgg333
  z167 := Tryz.sizeOf333
  v167 := Tryz.zeroValue333
  t168 := Tryz.underlying336
  a168 := Tryz.isAgg336
  z168 := Tryz.sizeOf336
  v168 := Tryz.zeroValue336
  t171 := Tryz.underlying342
  a171 := Tryz.isAgg342
  z171 := Tryz.sizeOf342
  v171 := Tryz.zeroValue342
  t173 := Tryz.underlying345
  a173 := Tryz.isAgg345
  z173 := Tryz.sizeOf345
  v173 := Tryz.zeroValue345
  t175 := Tryz.underlying347
  a175 := Tryz.isAgg347
  z175 := Tryz.sizeOf347
  v175 := Tryz.zeroValue347
  t210 := Tryz.underlying351
  a210 := Tryz.isAgg351
  z210 := Tryz.sizeOf351
  v210 := Tryz.zeroValue351
  t212 := Tryz.underlying361
  a212 := Tryz.isAgg361
  z212 := Tryz.sizeOf361
  v212 := Tryz.zeroValue361
  t213 := Tryz.underlying362
  a213 := Tryz.isAgg362
  z213 := Tryz.sizeOf362
  t232 := Tryz.underlying370
  a232 := Tryz.isAgg370
  z232 := Tryz.sizeOf370
  v232 := Tryz.zeroValue370
  t233 := Tryz.underlying371
  a233 := Tryz.isAgg371
  z233 := Tryz.sizeOf371
  v233 := Tryz.zeroValue371
  g15 := by kernel_rfl
  g16 := by kernel_rfl
  g17 := by kernel_rfl
  g18 := by kernel_rfl
  g19 := by kernel_rfl
  t80 := Tryz.underlying261
  a80 := Tryz.isAgg261
  z80 := Tryz.sizeOf261
  v80 := Tryz.zeroValue261
  i0 := by kernel_rfl
  i2 := by kernel_rfl
  i3 := by kernel_rfl
  i4 := by kernel_rfl
  i5 := by kernel_rfl
  i9 := by kernel_rfl
  i20 := by kernel_rfl
  i21 := by kernel_rfl
  i37 := by kernel_rfl
  i46 := by kernel_rfl
  i51 := by kernel_rfl
  i53 := by kernel_rfl
  i75 := by kernel_rfl
  i76 := by kernel_rfl
  i80 := by kernel_rfl
  i85 := by kernel_rfl
  i127 := by kernel_rfl
  i143 := by kernel_rfl
  i145 := by kernel_rfl
  i167 := by kernel_rfl
  i168 := by kernel_rfl
  i171 := by kernel_rfl
  i173 := by kernel_rfl
  i175 := by kernel_rfl
  i210 := by kernel_rfl
  i212 := by kernel_rfl
  i232 := by kernel_rfl
  i233 := by kernel_rfl
  m15 := by kernel_rfl
  m16 := by kernel_rfl
  m17 := by kernel_rfl
  m18 := by kernel_rfl
  m19 := by kernel_rfl
  c0 := by kernel_rfl
  c2 := by kernel_rfl
  c3 := by kernel_rfl
  c4 := by kernel_rfl
  c5 := by kernel_rfl
  c9 := by kernel_rfl
  c20 := by kernel_rfl
  c21 := by kernel_rfl
  c37 := by kernel_rfl
  c46 := by kernel_rfl
  c51 := by kernel_rfl
  c53 := by kernel_rfl
  c75 := by kernel_rfl
  c76 := by kernel_rfl
  c80 := by kernel_rfl
  c85 := by kernel_rfl
  c127 := by kernel_rfl
  c143 := by kernel_rfl
  c145 := by kernel_rfl
  c167 := by kernel_rfl
  c168 := by kernel_rfl
  c171 := by kernel_rfl
  c173 := by kernel_rfl
  c175 := by kernel_rfl
  c210 := by kernel_rfl
  c212 := by kernel_rfl
  c213 := by kernel_rfl
  c232 := by kernel_rfl
  c233 := by kernel_rfl }
theorem sh_strconv_Atoi_ok (s : ByteArray) (hmax : s.size ≤ 9223372036854775806) (v : Int) (h : Lib.atoiAll s.data.toList = .ok v) (w : World) :
    Calls Tryz.prog 191 #[.string s] w fun e w' => e = .returned (.tuple #[.int .i64 v, .nilIface]) ∧ (w' = w ∨ ∃ t, w' = Lib.bytesWorld w 5 t) := Any.strconv_Atoi_ok sh_laysC172 s hmax v h w
theorem sh_strconv_Atoi_syntax (s : ByteArray) (hlim : s.size ≤ 281474976710656) (h : Lib.atoiAll s.data.toList = Lib.NumEnd.syntax) (ev : Value) (w : World) (hv : w.cell? ⟨1, 0, none⟩ = some ev) (hev : ev = .nilIface ∨ ∃ te pe, ev = .iface te pe) :
    Calls Tryz.prog 191 #[.string s] w fun e w' => ∃ N, e = .returned (.tuple #[.int .i64 (0), .iface 336 (.pointer (some ⟨N, 0, none⟩))]) ∧ w.heap.size ≤ N ∧ w'.heap[N]? = some (.cells #[.string ⟨#[65, 116, 111, 105]⟩, .string s, ev] 351 (0, 0)) ∧ Below w.heap.size w w' := Any.strconv_Atoi_syntax sh_laysC172 s hlim h ev w hv hev
theorem sh_strconv_Atoi_range (s : ByteArray) (hlim : s.size ≤ 281474976710656) (h : Lib.atoiAll s.data.toList = .range) (ev : Value) (w : World) (hv : w.cell? ⟨2, 0, none⟩ = some ev) (hev : ev = .nilIface ∨ ∃ te pe, ev = .iface te pe) :
    Calls Tryz.prog 191 #[.string s] w fun e w' => ∃ N, e = .returned (.tuple #[.int .i64 (Lib.atoiSat s.data.toList), .iface 336 (.pointer (some ⟨N, 0, none⟩))]) ∧ w.heap.size ≤ N ∧ w'.heap[N]? = some (.cells #[.string ⟨#[65, 116, 111, 105]⟩, .string s, ev] 351 (0, 0)) ∧ Below w.heap.size w w' := Any.strconv_Atoi_range sh_laysC172 s hlim h ev w hv hev
def sh_lays143_ren : Go.Shelf.Ren := ⟨fun | 143 => 249 | 219 => 257 | 217 => 286 | 225 => 287 | 224 => 288 | 267 => 289 | 266 => 303 | 314 => 304 | n => n, fun | 9 => 9 | 3 => 3 | 4 => 4 | 5 => 5 | 46 => 316 | 146 => 358 | 51 => 357 | n => n, fun | 1 => 0 | n => n⟩
theorem sh_lays143 : Go.Proofs.Lays.n143 Tryz.prog sh_lays143_ren := {
  mixed := by kernel_rfl
  f143 := Tryz.func249.trans (congrArg some (by kernel_rfl))
  f217 := Tryz.func286.trans (congrArg some (by kernel_rfl))
  f219 := Tryz.func257.trans (congrArg some (by kernel_rfl))
  f224 := Tryz.func288.trans (congrArg some (by kernel_rfl))
  f225 := Tryz.func287.trans (congrArg some (by kernel_rfl))
  f266 := Tryz.func303.trans (congrArg some (by kernel_rfl))
  f267 := Tryz.func289.trans (congrArg some (by kernel_rfl))
  f314 := Tryz.func304.trans (congrArg some (by kernel_rfl))
  t3 := Tryz.underlying3
  a3 := Tryz.isAgg3
  z3 := Tryz.sizeOf3
  v3 := Tryz.zeroValue3
  t4 := Tryz.underlying4
  a4 := Tryz.isAgg4
  z4 := Tryz.sizeOf4
  v4 := Tryz.zeroValue4
  t5 := Tryz.underlying5
  a5 := Tryz.isAgg5
  z5 := Tryz.sizeOf5
  v5 := Tryz.zeroValue5
  t9 := Tryz.underlying9
  a9 := Tryz.isAgg9
  z9 := Tryz.sizeOf9
  v9 := Tryz.zeroValue9
  t46 := Tryz.underlying316
  a46 := Tryz.isAgg316
  z46 := Tryz.sizeOf316
  v46 := Tryz.zeroValue316
  t51 := Tryz.underlying357
  a51 := Tryz.isAgg357
  z51 := Tryz.sizeOf357
  v51 := Tryz.zeroValue357
  t146 := Tryz.underlying358
  a146 := Tryz.isAgg358
  z146 := Tryz.sizeOf358
  v146 := Tryz.zeroValue358
  g1 := by kernel_rfl }
theorem sh_strings_Index_one (s : ByteArray) (c : UInt8) (w : World) :
    Calls Tryz.prog 249 #[.string s, .string ⟨#[c]⟩] w fun e w' => e = .returned (.int .i64 (Lib.indexByte s.data.toList c)) ∧ w' = w := Any.strings_Index_one sh_lays143 s c w
def sh_lays138_ren : Go.Shelf.Ren := ⟨fun | 138 => 248 | 195 => 277 | 218 => 278 | 143 => 249 | 219 => 257 | 217 => 286 | 225 => 287 | 224 => 288 | 267 => 289 | 266 => 303 | 314 => 304 | n => n, fun | 9 => 9 | 3 => 3 | 4 => 4 | 5 => 5 | 0 => 0 | 46 => 316 | 146 => 358 | 51 => 357 | n => n, fun | 1 => 0 | n => n⟩
theorem sh_lays138 : Go.Proofs.Lays.n138 Tryz.prog sh_lays138_ren := {
  mixed := by kernel_rfl
  f138 := Tryz.func248.trans (congrArg some (by kernel_rfl))
  f143 := Tryz.func249.trans (congrArg some (by kernel_rfl))
  f195 := Tryz.func277.trans (congrArg some (by kernel_rfl))
  f217 := Tryz.func286.trans (congrArg some (by kernel_rfl))
  f218 := Tryz.func278.trans (congrArg some (by kernel_rfl))
  f219 := Tryz.func257.trans (congrArg some (by kernel_rfl))
  f224 := Tryz.func288.trans (congrArg some (by kernel_rfl))
  f225 := Tryz.func287.trans (congrArg some (by kernel_rfl))
  f266 := Tryz.func303.trans (congrArg some (by kernel_rfl))
  f267 := Tryz.func289.trans (congrArg some (by kernel_rfl))
  f314 := Tryz.func304.trans (congrArg some (by kernel_rfl))
  t0 := Tryz.underlying0
  a0 := Tryz.isAgg0
  z0 := Tryz.sizeOf0
  v0 := Tryz.zeroValue0
  t3 := Tryz.underlying3
  a3 := Tryz.isAgg3
  z3 := Tryz.sizeOf3
  v3 := Tryz.zeroValue3
  t4 := Tryz.underlying4
  a4 := Tryz.isAgg4
  z4 := Tryz.sizeOf4
  v4 := Tryz.zeroValue4
  t5 := Tryz.underlying5
  a5 := Tryz.isAgg5
  z5 := Tryz.sizeOf5
  v5 := Tryz.zeroValue5
  t9 := Tryz.underlying9
  a9 := Tryz.isAgg9
  z9 := Tryz.sizeOf9
  v9 := Tryz.zeroValue9
  t46 := Tryz.underlying316
  a46 := Tryz.isAgg316
  z46 := Tryz.sizeOf316
  v46 := Tryz.zeroValue316
  t51 := Tryz.underlying357
  a51 := Tryz.isAgg357
  z51 := Tryz.sizeOf357
  v51 := Tryz.zeroValue357
  t146 := Tryz.underlying358
  a146 := Tryz.isAgg358
  z146 := Tryz.sizeOf358
  v146 := Tryz.zeroValue358
  g1 := by kernel_rfl }
theorem sh_strings_Count_one (s : ByteArray) (c : UInt8) (w : World) :
    Calls Tryz.prog 248 #[.string s, .string ⟨#[c]⟩] w fun e w' => e = .returned (.int .i64 (Lib.countByte s.data.toList c)) ∧ w' = w := Any.strings_Count_one sh_lays138 s c w
def sh_lays221_ren : Go.Shelf.Ren := ⟨fun | 221 => 185 | 268 => 247 | 138 => 248 | 143 => 249 | 195 => 277 | 197 => 256 | 218 => 278 | 219 => 257 | 260 => 285 | 217 => 286 | 225 => 287 | 224 => 288 | 267 => 289 | 266 => 303 | 314 => 304 | n => n, fun | 9 => 9 | 3 => 3 | 31 => 158 | 4 => 4 | 0 => 0 | 105 => 310 | 21 => 21 | 5 => 5 | 46 => 316 | 119 => 353 | 139 => 356 | 138 => 355 | 146 => 358 | 51 => 357 | n => n, fun | 1 => 0 | 3 => 3 | 4 => 4 | n => n⟩
theorem sh_lays221 : Go.Proofs.Lays.n221 Tryz.prog sh_lays221_ren := {
  mixed := by kernel_rfl
  f138 := Tryz.func248.trans (congrArg some (by kernel_rfl))
  f143 := Tryz.func249.trans (congrArg some (by kernel_rfl))
  f195 := Tryz.func277.trans (congrArg some (by kernel_rfl))
  f197 := Tryz.func256.trans (congrArg some (by kernel_rfl))
  f217 := Tryz.func286.trans (congrArg some (by kernel_rfl))
  f218 := Tryz.func278.trans (congrArg some (by kernel_rfl))
  f219 := Tryz.func257.trans (congrArg some (by kernel_rfl))
  f221 := Tryz.func185.trans (congrArg some (by kernel_rfl))
  f224 := Tryz.func288.trans (congrArg some (by kernel_rfl))
  f225 := Tryz.func287.trans (congrArg some (by kernel_rfl))
  f260 := Tryz.func285.trans (congrArg some (by kernel_rfl))
  f266 := Tryz.func303.trans (congrArg some (by kernel_rfl))
  f267 := Tryz.func289.trans (congrArg some (by kernel_rfl))
  f268 := Tryz.func247.trans (congrArg some (by kernel_rfl))
  f314 := Tryz.func304.trans (congrArg some (by kernel_rfl))
  t0 := Tryz.underlying0
  a0 := Tryz.isAgg0
  z0 := Tryz.sizeOf0
  v0 := Tryz.zeroValue0
  t3 := Tryz.underlying3
  a3 := Tryz.isAgg3
  z3 := Tryz.sizeOf3
  v3 := Tryz.zeroValue3
  t4 := Tryz.underlying4
  a4 := Tryz.isAgg4
  z4 := Tryz.sizeOf4
  v4 := Tryz.zeroValue4
  t5 := Tryz.underlying5
  a5 := Tryz.isAgg5
  z5 := Tryz.sizeOf5
  v5 := Tryz.zeroValue5
  t9 := Tryz.underlying9
  a9 := Tryz.isAgg9
  z9 := Tryz.sizeOf9
  v9 := Tryz.zeroValue9
  t21 := Tryz.underlying21
  a21 := Tryz.isAgg21
  z21 := Tryz.sizeOf21
  v21 := Tryz.zeroValue21
  t31 := Tryz.underlying158
  a31 := Tryz.isAgg158
  z31 := Tryz.sizeOf158
  v31 := Tryz.zeroValue158
  t46 := Tryz.underlying316
  a46 := Tryz.isAgg316
  z46 := Tryz.sizeOf316
  v46 := Tryz.zeroValue316
  t51 := Tryz.underlying357
  a51 := Tryz.isAgg357
  z51 := Tryz.sizeOf357
  v51 := Tryz.zeroValue357
  t105 := Tryz.underlying310
  a105 := Tryz.isAgg310
  z105 := Tryz.sizeOf310
  v105 := Tryz.zeroValue310
  t119 := Tryz.underlying353
  a119 := Tryz.isAgg353
  z119 := Tryz.sizeOf353
  t138 := Tryz.underlying355
  a138 := Tryz.isAgg355
  z138 := Tryz.sizeOf355
  v138 := Tryz.zeroValue355
  t139 := Tryz.underlying356
  a139 := Tryz.isAgg356
  z139 := Tryz.sizeOf356
  v139 := Tryz.zeroValue356
  t146 := Tryz.underlying358
  a146 := Tryz.isAgg358
  z146 := Tryz.sizeOf358
  v146 := Tryz.zeroValue358
  g1 := by kernel_rfl
  g3 := by kernel_rfl
  g4 := by kernel_rfl }
end Go.Pw
set_option linter.unusedVariables false
set_option linter.unusedSimpArgs false
namespace Go.Pw
open Go Go.Lib
abbrev By := List UInt8
abbrev bs (l : By) : ByteArray := ⟨l.toArray⟩
theorem bs_size (l : By) : (bs l).size = l.length := by simp [bs, ByteArray.size]
def cutG (c : UInt8) : By → By → List By
  | acc, [] => [acc]
  | acc, x :: l => if x = c then acc :: cutG c [] l else cutG c (acc ++ [x]) l
theorem cutG_hit {c : UInt8} : ∀ {p acc r : By}, c ∉ p → cutG c acc (p ++ c :: r) = (acc ++ p) :: cutG c [] r
  | [], acc, r, _ => by simp [cutG]
  | x :: p, acc, r, h => by
    rw [List.mem_cons, not_or] at h
    rw [List.cons_append, cutG, if_neg (fun e => h.1 e.symm), cutG_hit h.2]; simp
theorem cutG_miss {c : UInt8} : ∀ {p acc : By}, c ∉ p → cutG c acc p = [acc ++ p]
  | [], acc, _ => by simp [cutG]
  | x :: p, acc, h => by
    rw [List.mem_cons, not_or] at h
    rw [cutG, if_neg (fun e => h.1 e.symm), cutG_miss h.2]; simp
theorem ix_cases (c : UInt8) : ∀ (l : By), (indexByte l c = -1 ∧ c ∉ l) ∨ ∃ p r, l = p ++ c :: r ∧ c ∉ p ∧ indexByte l c = p.length
  | [] => .inl ⟨rfl, by simp⟩
  | b :: l => by
    by_cases h : b = c
    · subst h
      exact .inr ⟨[], l, rfl, by simp, by simp [indexByte]⟩
    · rcases ix_cases c l with ⟨h1, h2⟩ | ⟨p, r, h1, h2, h3⟩
      · exact .inl ⟨by simp [indexByte, h, h1], by simp only [List.mem_cons, not_or]; exact ⟨fun e => h e.symm, h2⟩⟩
      · refine .inr ⟨b :: p, r, by rw [h1]; rfl, by simp only [List.mem_cons, not_or]; exact ⟨fun e => h e.symm, h2⟩, ?_⟩
        have : ¬ ((p.length : Int) = -1) := by omega
        simp [indexByte, h, h3, this]
theorem index_byte (c : UInt8) : ∀ (l : By), index l [c] = indexByte l c
  | [] => rfl
  | b :: l => by
    have ih := index_byte c l
    by_cases h : b = c
    · subst h; simp [index, indexByte, List.isPrefixOf]
    · have h' : ¬ c = b := fun e => h e.symm
      have hp : List.isPrefixOf [c] (b :: l) = false := by simp [List.isPrefixOf, h']
      rw [index, indexByte, hp, ih]
      simp [h]
theorem split_cut {c : UInt8} : ∀ (n : Nat) (l : By), l.count c = n → splitK [c] 0 n l = cutG c [] l
  | 0, l, h => by
    rw [splitK, cutG_miss (List.count_eq_zero.1 h)]; simp
  | n + 1, l, h => by
    rcases ix_cases c l with ⟨_, h2⟩ | ⟨p, r, h1, h2, h3⟩
    · rw [List.count_eq_zero.2 h2] at h; omega
    · have hi : index l [c] = p.length := by rw [index_byte]; exact h3
      have e1 : l.take (p.length + 0) = p := by rw [h1]; simp
      have e2 : l.drop (p.length + 1) = r := by
        rw [h1, ← List.drop_drop, List.drop_left]; rfl
      have hc : r.count c = n := by
        rw [h1, List.count_append, List.count_cons_self, List.count_eq_zero.2 h2] at h; omega
      have hne : ((p.length : Int) == -1) = false := by
        rw [beq_eq_false_iff_ne]; omega
      rw [splitK, hi, hne]
      simp only [Bool.false_eq_true, if_false, Int.toNat_natCast, List.length_singleton]
      rw [e1, e2, split_cut n r hc, h1, cutG_hit h2]; simp
def jnG (c : UInt8) : List By → By
  | [] => []
  | [x] => x
  | x :: y :: r => x ++ c :: jnG c (y :: r)
theorem jn_cons {c : UInt8} {x : By} {r : List By} (h : r ≠ []) : jnG c (x :: r) = x ++ c :: jnG c r := by
  cases r with
  | nil => exact absurd rfl h
  | cons y r => rfl
theorem join_jn {c : UInt8} : ∀ (l : List By), join l [c] = jnG c l
  | [] => rfl
  | x :: r => by
    have key : ∀ (r : List By) (x : By), x ++ joinTail [c] r = jnG c (x :: r) := fun r => by
      induction r with
      | nil => intro x; simp [joinTail, jnG]
      | cons y r ih =>
        intro x
        rw [jn_cons (by simp), ← ih y]
        simp [joinTail]
    rw [join_cons, key]
theorem cut_jn {c : UInt8} : ∀ {l : List By}, l ≠ [] → (∀ x ∈ l, c ∉ x) → cutG c [] (jnG c l) = l
  | [], h, _ => absurd rfl h
  | [x], _, h => by rw [jnG, cutG_miss (h x (by simp))]; rfl
  | x :: y :: r, _, h => by
    rw [jn_cons (by simp), cutG_hit (h x (by simp)), cut_jn (by simp) (fun z hz => h z (List.mem_cons_of_mem _ hz))]; rfl
abbrev i64P (n : Int) : Prop := -9223372036854775808 ≤ n ∧ n ≤ 9223372036854775807
abbrev isDg (b : UInt8) : Prop := 48 ≤ b.toNat ∧ b.toNat ≤ 57
theorem dg_nat {d : Nat} (h : d < 10) : (UInt8.ofNat (48 + d)).toNat = 48 + d := UInt8.toNat_ofNat_of_lt (show 48 + d < 256 by omega)
theorem dec_big {u : Nat} (h : ¬ u < 10) : decDigits u = decDigits (u / 10) ++ [UInt8.ofNat (48 + u % 10)] := by rw [decDigits, dif_neg h]
theorem dec_ne (u : Nat) : decDigits u ≠ [] := by
  by_cases h : u < 10
  · rw [decDigits_one h]; simp
  · rw [dec_big h]; simp
theorem dec_dg (u : Nat) : ∀ b ∈ decDigits u, isDg b := by
  induction u using Nat.strongRecOn with
  | _ u ih =>
    intro b hb
    by_cases h : u < 10
    · rw [decDigits_one h, List.mem_singleton] at hb; subst hb
      have := dg_nat h; omega
    · rw [dec_big h, List.mem_append, List.mem_singleton] at hb
      rcases hb with h1 | h1
      · exact ih (u / 10) (by omega) b h1
      · subst h1
        have := dg_nat (d := u % 10) (by omega); omega
theorem dec_head {u : Nat} (h0 : 0 < u) : ∃ b r, decDigits u = b :: r ∧ b.toNat ≠ 48 := by
  induction u using Nat.strongRecOn with
  | _ u ih =>
    by_cases h : u < 10
    · rw [decDigits_one h]
      exact ⟨_, _, rfl, by rw [dg_nat h]; omega⟩
    · obtain ⟨b, r, h1, h2⟩ := ih (u / 10) (by omega) (by omega)
      rw [dec_big h, h1]
      exact ⟨b, _, rfl, h2⟩
def dgS (a : Nat) (b : UInt8) : Nat := 10 * a + (b.toNat - 48)
def dgV (acc : Nat) (l : List UInt8) : Nat := l.foldl dgS acc
theorem dgV_nil (acc : Nat) : dgV acc [] = acc := by rw [dgV, List.foldl_nil]
theorem dgV_cons (acc : Nat) (b : UInt8) (l : List UInt8) : dgV acc (b :: l) = dgV (10 * acc + (b.toNat - 48)) l := by rw [dgV, List.foldl_cons, dgS, dgV]
theorem dgV_app (b : UInt8) (l : List UInt8) : ∀ acc : Nat, dgV acc (l ++ [b]) = 10 * dgV acc l + (b.toNat - 48) := by
  induction l with
  | nil => intro acc; rw [List.nil_append, dgV_cons, dgV_nil, dgV_nil]
  | cons x l ih =>
    intro acc
    rw [List.cons_append, dgV_cons, dgV_cons]
    exact ih _
theorem dgV_dec (u : Nat) : dgV 0 (decDigits u) = u := by
  induction u using Nat.strongRecOn with
  | _ u ih =>
    by_cases h : u < 10
    · rw [decDigits_one h, dgV_cons, dgV_nil, dg_nat h]; omega
    · rw [dec_big h, dgV_app, ih (u / 10) (by omega), dg_nat (by omega)]; omega
theorem dgV_le (l : List UInt8) : ∀ acc : Nat, acc * 10 ^ l.length ≤ dgV acc l := by
  induction l with
  | nil => intro acc; rw [dgV_nil]; simp
  | cons b l ih =>
    intro acc
    have h := ih (10 * acc + (b.toNat - 48))
    rw [dgV_cons, List.length_cons, Nat.pow_succ]
    generalize 10 ^ l.length = P at *
    have e : acc * (P * 10) = 10 * acc * P := by
      rw [Nat.mul_comm P 10, ← Nat.mul_assoc, Nat.mul_comm acc 10]
    rw [e]
    exact Nat.le_trans (Nat.mul_le_mul_right _ (Nat.le_add_right _ _)) h
theorem dec_dgV : ∀ (n : Nat) (l : By), l.length = n → l ≠ [] → (∀ b ∈ l, isDg b) → (l.length = 1 ∨ ∃ b r, l = b :: r ∧ b.toNat ≠ 48) → decDigits (dgV 0 l) = l := by
  intro n
  induction n with
  | zero => intro l hl hne _ _; exact absurd (List.length_eq_zero_iff.1 hl) hne
  | succ n ih =>
    intro l hl hne hd hh
    obtain ⟨p, b, rfl⟩ : ∃ p b, l = p ++ [b] := ⟨l.dropLast, l.getLast hne, (List.dropLast_concat_getLast hne).symm⟩
    have hb := hd b (by simp)
    have hp : ∀ x ∈ p, isDg x := fun x hx => hd x (by simp [hx])
    rw [dgV_app]
    have hof : UInt8.ofNat (48 + (b.toNat - 48)) = b := by
      rw [show 48 + (b.toNat - 48) = b.toNat by omega]; exact UInt8.ofNat_toNat
    by_cases hpe : p = []
    · subst hpe
      rw [dgV_nil, Nat.mul_zero, Nat.zero_add, decDigits_one (by omega), hof]; rfl
    · have hpl : p.length = n := by simp at hl; omega
      obtain ⟨x, r, hx⟩ : ∃ x r, p = x :: r := by cases p with | nil => exact absurd rfl hpe | cons x r => exact ⟨x, r, rfl⟩
      have hx0 : x.toNat ≠ 48 := by
        rcases hh with h | ⟨y, s, h1, h2⟩
        · simp [hx] at h
        · rw [hx] at h1; simp at h1; rw [h1.1]; exact h2
      have hpos : 0 < dgV 0 p := by
        rw [hx, dgV_cons]
        have h1 := dgV_le r (10 * 0 + (x.toNat - 48))
        have h2 := hp x (by simp [hx])
        have h3 : 0 < 10 ^ r.length := Nat.pos_of_ne_zero (by simp)
        have h4 : 0 < (10 * 0 + (x.toNat - 48)) * 10 ^ r.length := Nat.mul_pos (by omega) h3
        omega
      rw [dec_big (by omega), show (10 * dgV 0 p + (b.toNat - 48)) / 10 = dgV 0 p by omega, show (10 * dgV 0 p + (b.toNat - 48)) % 10 = b.toNat - 48 by omega, hof,
        ih p hpl hpe hp (.inr ⟨x, r, hx, hx0⟩)]
theorem itoa_neg {n : Int} (h : n < 0) : itoa n = 45 :: decDigits n.natAbs := by rw [itoa, if_pos h]
theorem itoa_nn {n : Int} (h : 0 ≤ n) : itoa n = decDigits n.toNat := by rw [itoa, if_neg (by omega)]
theorem itoa_ne (n : Int) : itoa n ≠ [] := by
  rw [itoa]; split
  · simp
  · exact dec_ne _
theorem itoa_ch {n : Int} : ∀ b ∈ itoa n, b = 45 ∨ isDg b := fun b hb => by
  rw [itoa] at hb
  split at hb
  · rcases List.mem_cons.1 hb with h | h
    · exact .inl h
    · exact .inr (dec_dg _ b h)
  · exact .inr (dec_dg _ b hb)
theorem itoa_no {n : Int} {c : UInt8} (h : c ≠ 45 ∧ ¬ isDg c) : c ∉ itoa n := fun hc => by
  rcases itoa_ch c hc with h1 | h1
  · exact h.1 h1
  · exact h.2 h1
theorem parse_dg : ∀ (l : By) (acc : Nat), (∀ b ∈ l, isDg b) → dgV acc l < 18446744073709551616 → parseUint10 acc l = .ok (dgV acc l)
  | [], acc, _, _ => rfl
  | b :: l, acc, h, hlt => by
    have hb := h b (by simp)
    have hle := dgV_le l (10 * acc + (b.toNat - 48))
    have h1 : 1 ≤ 10 ^ l.length := Nat.one_le_pow _ _ (by decide)
    have h2 := Nat.mul_le_mul_left (10 * acc + (b.toNat - 48)) h1
    rw [dgV_cons] at hlt
    rw [parseUint10, if_pos hb, if_neg (by omega), if_neg (by omega), Nat.mul_comm acc 10, parse_dg l _ (fun x hx => h x (by simp [hx])) hlt, dgV_cons]
theorem atoi_itoa {n : Int} (h : i64P n) : atoiAll (itoa n) = .ok n := by
  by_cases hn : n < 0
  · have hp := parse_dg (decDigits n.natAbs) 0 (dec_dg _) (by rw [dgV_dec]; omega)
    rw [dgV_dec] at hp
    rw [itoa_neg hn, atoiAll]
    have e45 : (45 : UInt8).toNat = 45 := rfl
    simp only [e45, or_true, if_true, parseMag, if_neg (dec_ne _), hp, not_true, false_and, if_false, true_and]
    rw [if_neg (by omega)]
    congr 1; omega
  · obtain ⟨c, r, hc⟩ : ∃ c r, itoa n = c :: r := by
      cases hi : itoa n with
      | nil => exact absurd hi (itoa_ne n)
      | cons c r => exact ⟨c, r, rfl⟩
    have hdc : decDigits n.toNat = c :: r := by rw [← itoa_nn (by omega)]; exact hc
    have hcd := dec_dg n.toNat c (by rw [hdc]; simp)
    have hcd1 : 48 ≤ c.toNat := hcd.1
    have hcd2 : c.toNat ≤ 57 := hcd.2
    have hp := parse_dg (decDigits n.toNat) 0 (dec_dg _) (by rw [dgV_dec]; omega)
    rw [dgV_dec, hdc] at hp
    rw [hc, atoiAll]
    have n1 : ¬ (c.toNat = 43 ∨ c.toNat = 45) := by omega
    have n2 : ¬ c.toNat = 45 := by omega
    have n3 : ¬ c.toNat = 43 := by omega
    simp only [n2, n3, or_self, if_false, parseMag, if_neg (List.cons_ne_nil c r), hp, not_false_iff, true_and, false_and]
    rw [if_neg (by omega)]
    congr 1; omega
abbrev dgOk (r : By) (d : Int) (z : Prop) : Prop := r ≠ [] ∧ (r.length : Int) ≤ d ∧ (r.head? = some 48 → z) ∧ ∀ b ∈ r, isDg b
def numV (s : By) (d : Int) : Option Int :=
  if s.head? = some 45 then (if dgOk s.tail d False then some (-(dgV 0 s.tail : Int)) else none)
  else if dgOk s d (s.length = 1) then some (dgV 0 s : Int) else none
theorem numV_neg {r : By} {d : Int} : numV (45 :: r) d = if dgOk r d False then some (-(dgV 0 r : Int)) else none := by
  rw [numV, if_pos (by rfl)]; rfl
theorem pow18 {k : Nat} {d : Int} (hd : d ≤ 18) (hk : (k : Int) ≤ d) : (10 : Nat) ^ k ≤ 1000000000000000000 := by
  have : k ≤ 18 := by omega
  exact Nat.le_trans (Nat.pow_le_pow_right (by decide) this) (by decide)
theorem head_dec {u : Nat} : (decDigits u).head? = some 48 → u = 0 := fun h => by
  refine Decidable.byContradiction fun h0 => ?_
  obtain ⟨b, r, h1, h2⟩ := dec_head (u := u) (by omega)
  rw [h1] at h
  simp only [List.head?_cons, Option.some.injEq] at h
  rw [h] at h2; exact h2 rfl
theorem head_n45 {u : Nat} : (decDigits u).head? ≠ some 45 := fun h => by
  cases hd : decDigits u with
  | nil => exact dec_ne u hd
  | cons b r =>
    rw [hd] at h
    simp only [List.head?_cons, Option.some.injEq] at h
    have := dec_dg u b (by rw [hd]; simp)
    rw [h] at this; revert this; decide
theorem dec0 : decDigits 0 = [48] := by rw [decDigits_one (by decide)]; rfl
theorem numV_iff {s : By} {d n : Int} (hd : d ≤ 18) : numV s d = some n ↔ s = itoa n ∧ ((decDigits n.natAbs).length : Int) ≤ d := by
  constructor
  · intro h
    rw [numV] at h
    split at h
    · rename_i h45
      obtain ⟨r, rfl⟩ : ∃ r, s = 45 :: r := by
        cases s with
        | nil => simp at h45
        | cons b r => simp only [List.head?_cons, Option.some.injEq] at h45; exact ⟨r, by rw [h45]⟩
      split at h
      · rename_i hok
        simp only [List.tail_cons] at hok h
        obtain ⟨h1, h2, h3, h4⟩ := hok
        simp only [Option.some.injEq] at h
        have hdec : decDigits (dgV 0 r) = r := by
          refine dec_dgV _ r rfl h1 h4 (.inr ?_)
          cases r with
          | nil => exact absurd rfl h1
          | cons b r =>
            refine ⟨b, r, rfl, fun hb => h3 ?_⟩
            simp only [List.head?_cons, Option.some.injEq]
            exact UInt8.toNat_inj.1 (by rw [hb]; rfl)
        have hpos : 0 < dgV 0 r := by
          refine Nat.pos_of_ne_zero fun h0 => h3 ?_
          rw [h0, dec0] at hdec; rw [← hdec]; rfl
        have e : n.natAbs = dgV 0 r := by omega
        rw [itoa_neg (by omega), e, hdec]
        exact ⟨rfl, h2⟩
      · cases h
    · split at h
      · rename_i hok
        obtain ⟨h1, h2, h3, h4⟩ := hok
        simp only [Option.some.injEq] at h
        have hdec : decDigits (dgV 0 s) = s := by
          refine dec_dgV _ s rfl h1 h4 ?_
          by_cases hh : s.head? = some 48
          · exact .inl (h3 hh)
          · right
            cases s with
            | nil => exact absurd rfl h1
            | cons b r =>
              refine ⟨b, r, rfl, fun hb => hh ?_⟩
              simp only [List.head?_cons, Option.some.injEq]
              exact UInt8.toNat_inj.1 (by rw [hb]; rfl)
        have e : n.natAbs = dgV 0 s := by omega
        rw [itoa_nn (by omega), show n.toNat = dgV 0 s by omega, e, hdec]
        exact ⟨rfl, h2⟩
      · cases h
  · rintro ⟨rfl, h2⟩
    by_cases hn : n < 0
    · have h := numV_neg (r := decDigits n.natAbs) (d := d)
      rw [if_pos ⟨dec_ne _, h2, fun h => by have := head_dec h; omega, dec_dg _⟩, dgV_dec] at h
      rw [itoa_neg hn, h]
      congr 1; omega
    · have en : n.toNat = n.natAbs := by omega
      rw [itoa_nn (by omega), en, numV, if_neg head_n45, if_pos ⟨dec_ne _, h2, fun h => (congrArg (fun u => (decDigits u).length) (head_dec h)).trans (congrArg List.length dec0), dec_dg _⟩, dgV_dec, show ((n.natAbs : Nat) : Int) = n by omega]
theorem numV_i64 {s : By} {d n : Int} (hd : d ≤ 18) (h : numV s d = some n) : i64P n ∧ n.natAbs < 1000000000000000000 := by
  obtain ⟨_, h2⟩ := (numV_iff hd).1 h
  have h3 := lt_pow_nDigits n.natAbs
  rw [← decDigits_length] at h3
  have h4 := pow18 hd h2
  exact ⟨by constructor <;> omega, by omega⟩
theorem nat_iff {s : By} {d n : Int} (hd : d ≤ 18) : (atoiAll s = .ok n ∧ 0 ≤ n ∧ itoa n = s ∧ (s.length : Int) ≤ d) ↔ numV s d = some n ∧ 0 ≤ n := by
  constructor
  · rintro ⟨h1, h2, h3, h4⟩
    refine ⟨(numV_iff hd).2 ⟨h3.symm, ?_⟩, h2⟩
    rw [← h3, itoa_nn h2] at h4
    rw [show n.natAbs = n.toNat by omega]; exact h4
  · rintro ⟨h1, h2⟩
    have hi := (numV_i64 hd h1).1
    obtain ⟨h3, h4⟩ := (numV_iff hd).1 h1
    refine ⟨by rw [h3]; exact atoi_itoa hi, h2, h3.symm, ?_⟩
    rw [h3, itoa_nn h2, show n.toNat = n.natAbs by omega]; exact h4
end Go.Pw
set_option linter.unusedSimpArgs false
set_option linter.unusedVariables false
set_option maxRecDepth 20000
namespace Go.Pw
open Go Go.RowKit Go.Lib Go.Sort
open Go.Proofs
abbrev svD (l : By) : D := .v (.string (bs l))
abbrev sv (l : By) : V := .c (.d (svD l))
abbrev rS (l : By) : List D := [svD l]
abbrev sts (l : List By) : C := slv 1 rS [] l
abbrev atV (s : By) : V := match atoiAll s with
  | .ok v => .tup [vi .i64 v, .c (.d (.v .nilIface))]
  | Lib.NumEnd.syntax => .tup [vi .i64 0, .c .er]
  | .range => .tup [vi .i64 (atoiSat s), .c .er]
theorem VEq.str {a b : ByteArray} (h : a = b) : VEq (.c (.d (.v (.string a)))) (.c (.d (.v (.string b)))) := by subst h; exact .refl _
theorem CEq.str {a b : ByteArray} (h : a = b) : CEq (.d (.v (.string a))) (.d (.v (.string b))) := by subst h; exact .refl _
theorem RepV.vv {Γ : Cx} {w : World} {x u : Value} (h : RepV Γ w (.c (.d (.v x))) u) : u = x := by
  cases h with | c _ _ h => cases h; rfl
theorem RepV.dv {Γ : Cx} {w : World} {x : Value} (h : one x = true) : RepV Γ w (.c (.d (.v x))) x := .c _ _ (.v _ h)
theorem below_sh (w : World) (k : Nat) (os : Array Obj) : Below w.heap.size w (grow (w.drewN k) os) :=
  ⟨rfl, rfl, rfl, by show w.heap.size ≤ (w.heap ++ os).size; rw [Array.size_append]; omega, fun j hj => Array.getElem?_append_left hj⟩
theorem C181 {n : Int} : i64P n → PFD Tryz.prog 181 [vi .i64 n] (sv (itoa n)) := fun hn => by
  refine pfd_below Tryz.call181 fun Γ w us hst hr => ?_
  obtain ⟨u, rfl, hu⟩ := hr.one
  cases hu.vv
  obtain ⟨W0, ⟨⟨t, fr, ht⟩, _⟩, _, hb⟩ := hst.lay.cell
  refine (sh_strconv_Itoa n hn.1 hn.2 w ⟨t, fr, (hb 5 (Array.getElem?_eq_some_iff.1 ht).1).trans ht⟩).mono ?_
  rintro e w' ⟨rfl, k, os, rfl⟩
  exact ⟨_, rfl, below_sh w k os, RepV.dv rfl⟩
theorem C249 {l : By} {c : UInt8} : PFD Tryz.prog 249 [sv l, .c (.d (.v (.string ⟨#[c]⟩)))] (vi .i64 (indexByte l c)) := by
  refine pfd_below Tryz.call249 fun Γ w us hst hr => ?_
  obtain ⟨u, v, rfl, hu, hv⟩ := hr.two
  cases hu.vv; cases hv.vv
  refine (sh_strings_Index_one (bs l) c w).mono ?_
  rintro e w' ⟨rfl, rfl⟩
  exact ⟨_, rfl, Below.refl _ _, RepV.dv rfl⟩
theorem RepV.pair {Γ : Cx} {w : World} {a b : V} {x y : Value} (h1 : RepV Γ w a x) (h2 : RepV Γ w b y) : RepV Γ w (.tup [a, b]) (.tuple #[x, y]) := by
  refine .tup _ _ rfl fun i v u hv hu => ?_
  match i, hv, hu with
  | 0, hv, hu => cases hv; cases hu; exact h1
  | 1, hv, hu => cases hv; cases hu; exact h2
  | i + 2, hv, hu => cases hv
theorem C191 {s : By} : s.length ≤ 1000000 → PFD Tryz.prog 191 [sv s] (atV s) := fun hs => by
  refine pfd_below Tryz.call191 fun Γ w us hst hr => ?_
  obtain ⟨u, rfl, hu⟩ := hr.one
  cases hu.vv
  obtain ⟨W0, ⟨_, ⟨e3, h3, k3⟩, ⟨e4, h4, k4⟩⟩, hc, _⟩ := hst.lay.cell
  have hsz := bs_size s
  unfold atV
  match ha : atoiAll s with
  | .ok v =>
    refine (sh_strconv_Atoi_ok (bs s) (by omega) v ha w).mono ?_
    rintro e w' ⟨rfl, h⟩
    refine ⟨_, rfl, ?_, RepV.pair (RepV.dv rfl) (RepV.dv rfl)⟩
    rcases h with rfl | ⟨t, rfl⟩
    · exact Below.refl _ _
    · exact bytesWorld_below w 5 t
  | Lib.NumEnd.syntax =>
    refine (sh_strconv_Atoi_syntax (bs s) (by omega) ha e3 w (hc _ _ h3) k3).mono ?_
    rintro e w' ⟨N, rfl, _, _, hB⟩
    exact ⟨_, rfl, hB, RepV.pair (RepV.dv rfl) (.c _ _ ⟨_, _, rfl⟩)⟩
  | .range =>
    refine (sh_strconv_Atoi_range (bs s) (by omega) ha e4 w (hc _ _ h4) k4).mono ?_
    rintro e w' ⟨N, rfl, _, _, hB⟩
    exact ⟨_, rfl, hB, RepV.pair (RepV.dv rfl) (.c _ _ ⟨_, _, rfl⟩)⟩
theorem RepV.strs {Γ : Cx} {w : World} {l : List By} {u : Value} (h : RepV Γ w (.c (sts l)) u) : (∃ A c, u = .slice A 0 c ∧ l = []) ∨ ∃ b o c, u = .slice (some ⟨b, o, none⟩) l.length c ∧ l.length ≤ c ∧ Γ.I b ∧ ∀ j x, l[j]? = some x → w.cell? ⟨b, o + j, none⟩ = some (.string (bs x)) := by
  cases h with | c _ _ h =>
  replace h : RepD Γ.I w (.sl 1 l.length fun i => rS (l.getD i [])) u := h
  generalize hn : l.length = n at h
  cases h with
  | slE _ _ A c => exact .inl ⟨A, c, rfl, List.length_eq_zero_iff.1 hn⟩
  | sl _ _ _ ad c U hnc hI hs hc hr =>
    have key : ∀ j x, l[j]? = some x → w.cell? (ad.add j) = some (.string (bs x)) := fun j x hx => by
      have hj : j < n := by rw [← hn]; exact (List.getElem?_eq_some_iff.1 hx).1
      have h1 := hc j 0 (svD (l.getD j [])) hj rfl
      have h2 := hr j 0 (svD (l.getD j [])) hj rfl
      have e : l.getD j [] = x := by rw [List.getD, hx]; rfl
      rw [e] at h2
      rw [Nat.mul_one, Nat.add_zero] at h1
      rw [h1]
      revert h2; generalize U j 0 = y; intro h2
      cases h2; rfl
    by_cases h0 : l = []
    · subst h0; cases hn; exact .inl ⟨_, _, rfl, rfl⟩
    · obtain ⟨b, o, sp⟩ := ad
      have hx : ∃ x, l[0]? = some x := by cases l with | nil => exact absurd rfl h0 | cons x r => exact ⟨x, rfl⟩
      obtain ⟨x, hx⟩ := hx
      have h1 := key 0 x hx
      have hsp : sp = none := by
        cases sp with
        | none => rfl
        | some q =>
          simp only [World.cell?, Addr.add] at h1
          split at h1
          · simp at h1
          · cases h1
      subst hsp
      exact .inr ⟨b, o, c, rfl, hnc, hI, fun j x hx => by
        have h2 := key j x hx
        have e : (Addr.mk b o none).add j = ⟨b, o + j, none⟩ := by
          unfold Addr.add
          split
          · rename_i h0; subst h0; rfl
          · rfl
        rw [e] at h2; exact h2⟩
theorem C93 {l : List By} {c : UInt8} : (l.length ≤ 1000000 ∧ (jnG c l).length ≤ 1000000000) → PFD Tryz.prog 93 [.c (sts l), .c (.d (.v (.string ⟨#[c]⟩)))] (sv (jnG c l)) := fun ⟨hl, hj⟩ => by
  refine pfd_below Tryz.call93 fun Γ w us hst hr => ?_
  obtain ⟨u, v, rfl, hu, hv⟩ := hr.two
  cases hv.vv
  rcases hu.strs with ⟨A, cc, rfl, rfl⟩ | ⟨b, o, cc, rfl, hcc, hI, hcell⟩
  · refine (sh_strings_Join_none A cc ⟨#[c]⟩ w).mono ?_
    rintro e w' ⟨rfl, rfl⟩
    exact ⟨_, rfl, Below.refl _ _, RepV.dv rfl⟩
  · have e1 : ((l.map bs).map (·.data.toList)) = l := by
      rw [List.map_map]
      exact (List.map_congr_left (fun x _ => by simp [bs])).trans (List.map_id l)
    have e2 : Lib.join ((l.map bs).map (·.data.toList)) (ByteArray.mk #[c]).data.toList = jnG c l := by rw [e1]; exact join_jn l
    have h := sh_strings_Join b o cc (l.map bs) ⟨#[c]⟩ w (fun j x hx => by
      rw [List.getElem?_map, Option.map_eq_some_iff] at hx
      obtain ⟨y, hy, rfl⟩ := hx
      exact hcell j y hy) (hst.im b hI) (by rw [List.length_map]; omega) (by rw [List.length_map]; exact hcc) (by rw [e2]; omega)
    rw [e2, List.length_map] at h
    refine h.mono ?_
    rintro e w' ⟨rfl, hB⟩
    exact ⟨_, rfl, hB, RepV.dv rfl⟩
end Go.Pw
set_option linter.unusedSimpArgs false
set_option linter.unusedVariables false
set_option maxHeartbeats 1000000
namespace Go.Pw
open Go.RowKit Go.Lib
set_option maxRecDepth 2000
open Go Go.Proofs A1 A2 A3 A4
theorem jn_len {c : UInt8} {M : Nat} : ∀ {l : List By}, (∀ x ∈ l, x.length ≤ M) → (jnG c l).length ≤ l.length * (M + 1)
  | [], _ => by simp [jnG]
  | [x], h => by have := h x (by simp); simp [jnG]; omega
  | x :: y :: r, h => by
    have h1 := jn_len (c := c) (M := M) (l := y :: r) (fun z hz => h z (List.mem_cons_of_mem _ hz))
    have h2 := h x (by simp)
    rw [jn_cons (by simp), List.length_append, List.length_cons, List.length_cons, Nat.add_mul, Nat.one_mul]
    omega
abbrev wdL (l : List Int) : List By := l.map itoa
def wdS (l : List Int) : By := jnG 32 (wdL l)
theorem wd_len {l : List Int} (h : ∀ n ∈ l, i64P n) : (wdS l).length ≤ l.length * 22 := by
  have := jn_len (c := 32) (M := 21) (l := wdL l) (fun x hx => by
    obtain ⟨n, hn, rfl⟩ := List.mem_map.1 hx
    exact itoa_length_le n (h n hn).1 (h n hn).2)
  rw [List.length_map] at this; exact this
theorem tk1 {α : Type} {l : List α} {k : Nat} (d : α) (h : k < l.length) : l.take (k + 1) = l.take k ++ [l.getD k d] := by
  rw [List.take_add_one, List.getElem?_eq_getElem h, List.getD_eq_getElem?_getD, List.getElem?_eq_getElem h]; rfl
theorem C109 {l : List Int} : (l.length ≤ 1000 ∧ ∀ n ∈ l, i64P n) → PFD Tryz.prog 109 [.c (ints l)] (sv (wdS l)) := fun ⟨hl, h⟩ => by
  refine pi1 fn109 ?_
  (repeat' first | (refine Owe.same ?_; first | refine Owe.o ?_ | refine Owe.mk ?_ ?_) | (refine Fork.same ?_; (first | refine fkD ?_ ?_ | refine fkN ?_ ?_ | refine fkM ?_ ?_) <;> intro h) | refine MvQ.stay ?_)
  refine Sat.nilS 3 9 1 (fun i => rS (([] : List By).getD i [])) rfl ?_
  refine Sat.lp (fun k : Nat => ⟨[(8, vi .i64 k), (7, vi .i64 l.length), (6, .c (ints l)), (3, .c (.ms 0 (wdL (l.take k)).length))], [(0, rowv 9 1 rS [] (wdL (l.take k)))], 1⟩)
    (fun k => k ≤ l.length) (fun k => l.length - k) 0 [0] (Nat.zero_le _) ?_ ?_
  · (refine qis ?_ ?_ <;> (repeat' first | exact rfl | (refine qS ?_; constructor)))
  · intro k hk
    refine Fork.dec (fun hlt => ?_) (fun hlt => ?_)
    · have hlt : k < l.length := by omega
      have hi : i64P (l.getD (k : Int).toNat 0) := h _ (by
        show l.getD k 0 ∈ l
        rw [List.getD_eq_getElem?_getD, List.getElem?_eq_getElem hlt]; exact List.getElem_mem ..)
      have h84 := C181 hi
      have ht : wdL (l.take (k + 1)) = wdL (l.take k) ++ [itoa (l.getD k 0)] := by
        rw [tk1 0 hlt, wdL, List.map_append]; rfl
      have hk1 : (wdL (l.take k)).length ≤ 1000 := by rw [List.length_map, List.length_take]; omega
      (repeat' first | (refine Owe.same ?_; first | refine Owe.o ?_ | refine Owe.mk ?_ ?_) | (refine Fork.same ?_; (first | refine fkY ?_ | refine fkF ?_ | ((first | refine fkD ?_ ?_ | refine fkN ?_ ?_ | refine fkM ?_ ?_) <;> intro h))) | ((first | refine OpsL.same ?_ | refine OpsDL.same ?_); first | refine oK h84 rfl rfl rfl ?_) | refine MvQ.stay ?_)
      refine again (k + 1) [1] hlt (by omega) ?_
      (refine qis ?_ ?_ <;> (repeat' first | exact rfl | (refine qS ?_; constructor)))
      · rw [ht, List.length_append]; rfl
      · exact ⟨_, rfl, ht⟩
    · have hk1 : k = l.length := by omega
      have hw : wdL (l.take k) = wdL l := by rw [List.take_of_length_le (by omega)]
      have hj := wd_len h
      have hll : (wdL l).length = l.length := List.length_map ..
      have h42 := C93 (l := wdL l) (c := 32) ⟨by omega, by show (wdS l).length ≤ _; omega⟩
      rw [hw]
      (repeat' first | (refine Owe.same ?_; first | refine Owe.o ?_ | refine Owe.mk ?_ ?_) | (refine Fork.same ?_; (first | refine fkD ?_ ?_ | refine fkN ?_ ?_ | refine fkM ?_ ?_) <;> intro h))
      refine MvQ.frz 3 _ rfl rfl (Nat.le_refl _) ?_
      (repeat' first | (refine Owe.same ?_; first | refine Owe.o ?_ | refine Owe.mk ?_ ?_) | (refine Fork.same ?_; (first | refine fkY ?_ | refine fkF ?_ | ((first | refine fkD ?_ ?_ | refine fkN ?_ ?_ | refine fkM ?_ ?_) <;> intro h))) | ((first | refine OpsL.same ?_ | refine OpsDL.same ?_); first | refine oK h42 rfl rfl rfl ?_) | refine MvQ.stay ?_)
      (refine rqK rfl ?_; (repeat' first | exact rfl | (refine qS ?_; constructor)))
theorem cutB_bs {l : By} {i j : Nat} : cutB (bs l) i j = bs ((l.take j).drop i) := by simp [cutB, bs]
end Go.Pw
set_option linter.unusedSimpArgs false
set_option linter.unusedVariables false
set_option maxHeartbeats 1000000
set_option maxRecDepth 20000
namespace Go.Pw
open Go.RowKit Go.Lib
set_option maxRecDepth 2000
open Go Go.Proofs A1 A2 A3 A4
end Go.Pw

set_option linter.unusedSimpArgs false
set_option linter.unusedVariables false
set_option maxHeartbeats 1000000
namespace Go.Pw
open Go.RowKit Go.Lib
set_option maxRecDepth 2000
open Go Go.Proofs A1 A2 A3 A4
end Go.Pw

set_option linter.unusedSimpArgs false
set_option linter.unusedVariables false
set_option maxHeartbeats 1000000
namespace Go.Pw
open Go.RowKit Go.Lib
set_option maxRecDepth 2000
open Go Go.Proofs A1 A2 A3 A4
end Go.Pw

set_option linter.unusedSimpArgs false
set_option linter.unusedVariables false
set_option maxHeartbeats 1000000
namespace Go.Pw
open Go.RowKit Go.Lib
set_option maxRecDepth 2000
open Go Go.Proofs A1 A2 A3 A4
def alL {α : Type} (f : By → Option α) : List By → Option (List α)
  | [] => some []
  | w :: r => match f w, alL f r with
    | some n, some l => some (n :: l)
    | _, _ => none
theorem alL_app {α : Type} {f : By → Option α} {w : By} : ∀ {l : List By} {a : List α}, alL f l = some a → alL f (l ++ [w]) = match f w with | some n => some (a ++ [n]) | none => none
  | [], a, h => by
    cases h
    cases hw : f w <;> simp [alL, hw]
  | x :: l, a, h => by
    rw [alL] at h
    rw [List.cons_append, alL]
    split at h
    · rename_i n m hn hm
      cases h
      rw [alL_app hm, hn]
      cases f w <;> simp
    · cases h
theorem alL_bad {α : Type} {f : By → Option α} {w : By} (hw : f w = none) : ∀ {l r : List By}, alL f (l ++ w :: r) = none
  | [], r => by rw [List.nil_append, alL, hw]
  | x :: l, r => by
    rw [List.cons_append, alL, alL_bad hw]
    cases f x <;> rfl
theorem alL_map {α : Type} {f : By → Option α} {g : α → By} : ∀ {l : List α}, (∀ x ∈ l, f (g x) = some x) → alL f (l.map g) = some l
  | [], _ => rfl
  | x :: l, h => by
    rw [List.map_cons, alL, h x (by simp), alL_map (fun y hy => h y (List.mem_cons_of_mem _ hy))]
theorem atoi_i64 {s : By} {v : Int} (h : atoiAll s = .ok v) : i64P v := by
  cases s with
  | nil => cases h
  | cons c r =>
    rw [atoiAll] at h
    split at h
    · cases h
    · cases h
    · rename_i u hu
      split at h
      · cases h
      · split at h
        · cases h
        · rename_i h1 h2
          injection h with h
          subst h
          by_cases hn : c.toNat = 45
          · rw [if_pos hn]
            have : ¬ 9223372036854775808 < u := fun hh => h2 ⟨hn, hh⟩
            omega
          · rw [if_neg hn]
            have : ¬ 9223372036854775808 ≤ u := fun hh => h1 ⟨hn, hh⟩
            omega
theorem C191o {s : By} {v : Int} (h : atoiAll s = .ok v) : s.length ≤ 1000000 → PFD Tryz.prog 191 [sv s] (.tup [vi .i64 v, .c (.d (.v .nilIface))]) := fun hs => by
  have := C191 hs
  unfold atV at this
  rw [h] at this; exact this
theorem C191e {s : By} (h : ∀ v, atoiAll s ≠ .ok v) : s.length ≤ 1000000 → ∃ n, PFD Tryz.prog 191 [sv s] (.tup [vi .i64 n, .c .er]) := fun hs => by
  have := C191 hs
  unfold atV at this
  match e : atoiAll s with
  | .ok v => exact absurd e (h v)
  | Lib.NumEnd.syntax => rw [e] at this; exact ⟨_, this⟩
  | .range => rw [e] at this; exact ⟨_, this⟩
theorem cut_len {c : UInt8} : ∀ {l acc : By}, ∀ x ∈ cutG c acc l, x.length ≤ acc.length + l.length
  | [], acc, x, hx => by rw [cutG, List.mem_singleton] at hx; subst hx; simp
  | y :: l, acc, x, hx => by
    rw [cutG] at hx
    split at hx
    · rcases List.mem_cons.1 hx with h1 | h1
      · subst h1; simp
      · have := cut_len x h1; simp at this ⊢; omega
    · have := cut_len x hx; simp at this ⊢; omega
theorem cut_count {c : UInt8} : ∀ {l acc : By}, (cutG c acc l).length ≤ l.length + 1
  | [], acc => by simp [cutG]
  | y :: l, acc => by
    rw [cutG]; split
    · have := cut_count (c := c) (l := l) (acc := []); simp; omega
    · have := cut_count (c := c) (l := l) (acc := acc ++ [y]); simp; omega
def ntV (d : Int) (w : By) : Option Int := match numV w d with
  | some n => if 0 ≤ n then some n else none
  | none => none
abbrev naL (d : Int) (W : List By) : Option (List Int) := alL (ntV d) W
theorem ntV_ok {d : Int} (hd : d ≤ 18) {w : By} {v : Int} (h1 : atoiAll w = .ok v) (h2 : 0 ≤ v) (h3 : itoa v = w) (h4 : (w.length : Int) ≤ d) : ntV d w = some v := by
  have h := ((nat_iff hd).1 ⟨h1, h2, h3, h4⟩).1
  unfold ntV; rw [h]
  simp [h2]
theorem ntV_no {d : Int} (hd : d ≤ 18) {w : By} (h : ¬ ∃ v, atoiAll w = .ok v ∧ 0 ≤ v ∧ itoa v = w ∧ (w.length : Int) ≤ d) : ntV d w = none := by
  cases hn : numV w d with
  | none => unfold ntV; rw [hn]
  | some n =>
    unfold ntV; rw [hn]
    by_cases h0 : 0 ≤ n
    · exact absurd ⟨n, (nat_iff hd).2 ⟨hn, h0⟩⟩ h
    · simp [h0]
theorem naL_bad {d : Int} {s w : By} {dn rr : List By} (h : cutG 32 [] s = dn ++ w :: rr) (hw : ntV d w = none) : naL d (cutG 32 [] s) = none := by
  rw [h]; exact alL_bad hw
theorem C112 {s : By} {d : Int} : (s.length ≤ 1000000 ∧ d ≤ 18) → PFD Tryz.prog 112 [sv s, vi .i64 d] (.tup [.c (ints ((naL d (cutG 32 [] s)).getD [])), vbl (naL d (cutG 32 [] s)).isSome]) := fun ⟨hs, hd⟩ => by
  refine pi2 fn112 ?_
  (repeat' first | (refine Owe.same ?_; first | refine Owe.o ?_ | refine Owe.mk ?_ ?_) | (refine Fork.same ?_; (first | refine fkD ?_ ?_ | refine fkN ?_ ?_ | refine fkM ?_ ?_) <;> intro h) | refine MvQ.stay ?_)
  refine Ops.cs rfl rfl (CallS.of fn110 rfl ?_)
  (repeat' first | (refine Owe.same ?_; first | refine Owe.o ?_ | refine Owe.mk ?_ ?_) | (refine Fork.same ?_; (first | refine fkD ?_ ?_ | refine fkN ?_ ?_ | refine fkM ?_ ?_) <;> intro h) | refine MvQ.stay ?_)
  refine Ops.cs rfl rfl (CallS.of fn197 rfl ?_)
  (repeat' first | (refine Owe.same ?_; first | refine Owe.o ?_ | refine Owe.mk ?_ ?_) | (refine Fork.same ?_; (first | refine fkD ?_ ?_ | refine fkN ?_ ?_ | refine fkM ?_ ?_) <;> intro h) | refine MvQ.stay ?_)
  refine Sat.keep [3, 4, 5, 6, 11] ?_
  refine Sat.rf rfl rfl (CallS.of fn255 rfl ?_)
  (repeat' first | (refine Owe.same ?_; first | refine Owe.o ?_ | refine Owe.mk ?_ ?_) | (refine Fork.same ?_; (first | refine fkD ?_ ?_ | refine fkN ?_ ?_ | refine fkM ?_ ?_) <;> intro h) | refine MvQ.stay ?_)
  · exact absurd h (by decide)
  refine Sat.nilB 2 0 3 1 (fun i => r1 (([] : List Int).getD i 0)) rfl rfl ?_
  refine Sat.lp (fun st : List Int × By => ⟨[(0, .c (.yd 6)), (1, .c (.bp 4 0)), (2, .c (.bp 3 0)), (3, .c (.bp 5 0))],
      [(0, .box [.d (.v (.slice none 0 0))]), (1, .box [.d (.v (.bool false))]), (2, .box [.ms 7 st.1.length]), (3, .box [.d (svD st.2)]), (4, .box [.d (.v (.string ⟨#[32]⟩))]), (5, .box [int 0]),
       (6, .lp [(3, .c (.rp [dI d])), (4, .c (.bp 0 0)), (5, .c (.bp 1 0)), (6, .c (.bp 2 0)), (11, .c (.fn 255 [4, 3, 5]))] .ready none (RR Tryz.prog 41 [12] ra112 rb112)), (7, rowv 3 1 r1 0 st.1)], 8⟩)
    (fun st : List Int × By => st.1.length + st.2.length ≤ 1000000 ∧ ∃ dn, cutG 32 [] s = dn ++ cutG 32 [] st.2 ∧ naL d dn = some st.1) (fun st : List Int × By => st.2.length) ([], s) [7] ⟨by simpa using hs, [], rfl, rfl⟩ ?_ ?_
  · (refine qis ?_ ?_ <;> (repeat' first | exact rfl | (refine qS ?_; constructor)))
  · rintro ⟨acc, rest⟩ ⟨hlen, dn, hcut, hdn⟩
    simp only at hlen hcut hdn
    rcases ix_cases 32 rest with ⟨hi, hm⟩ | ⟨p, r, rfl, hm, hi⟩
    · have h124 := C249 (l := rest) (c := 32)
      rw [hi] at h124
      (repeat' first | (refine Owe.same ?_; first | refine Owe.o ?_ | refine Owe.mk ?_ ?_) | (refine Fork.same ?_; (first | refine fkD ?_ ?_ | refine fkN ?_ ?_ | refine fkM ?_ ?_) <;> intro h) | ((first | refine OpsL.same ?_ | refine OpsDL.same ?_); first | refine pK h124 rfl rfl ?_) | refine MvQ.stay ?_)
      · refine OpsL.as 50 (sv rest) (.refl _) ?_
        by_cases hok : ∃ v, atoiAll rest = .ok v
        · obtain ⟨v, hv⟩ := hok
          have h88 := C191o hv (by omega)
          have h84 := C181 (atoi_i64 hv)
          have bad : (¬ ∃ v, atoiAll rest = .ok v ∧ 0 ≤ v ∧ itoa v = rest ∧ (rest.length : Int) ≤ d) → naL d (cutG 32 [] s) = none := fun hh => naL_bad (rr := []) (hcut.trans (by rw [cutG_miss hm, List.nil_append])) (ntV_no hd hh)
          have only : ∀ {v'}, atoiAll rest = .ok v' → v' = v := fun h => by rw [hv] at h; injection h with h; exact h.symm
          refine Ops.yd rfl rfl rfl rfl rfl ?_
          (repeat' first | (refine Owe.same ?_; first | refine Owe.o ?_ | refine Owe.mk ?_ ?_) | (refine Fork.same ?_; (first | refine fkD ?_ ?_ | refine fkN ?_ ?_ | refine fkM ?_ ?_) <;> intro h) | refine MvQ.stay ?_)
          refine And.intro rfl (Exists.intro _ (And.intro rfl ?_))
          (repeat' first | (refine Owe.same ?_; first | refine Owe.o ?_ | refine Owe.mk ?_ ?_) | (refine Fork.same ?_; (first | refine fkD ?_ ?_ | refine fkN ?_ ?_ | refine fkM ?_ ?_) <;> intro h) | ((first | refine OpsL.same ?_ | refine OpsDL.same ?_); first | refine pK h88 rfl rfl ?_ | refine pK h84 rfl rfl ?_) | refine MvQ.stay ?_)
          · refine Exists.intro _ (Exists.intro _ (Exists.intro _ (And.intro rfl ?_)))
            (repeat' first | (refine Owe.same ?_; first | refine Owe.o ?_ | refine Owe.mk ?_ ?_) | (refine Fork.same ?_; (first | refine fkD ?_ ?_ | refine fkN ?_ ?_ | refine fkM ?_ ?_) <;> intro h) | refine MvQ.stay ?_)
            rw [bad (fun ⟨v', h1, h2, _⟩ => by have := only h1; omega)]
            (refine rqK rfl ?_; (repeat' first | exact rfl | (refine qS ?_; constructor)))
          · refine Exists.intro _ (Exists.intro _ (Exists.intro _ (And.intro rfl ?_)))
            (repeat' first | (refine Owe.same ?_; first | refine Owe.o ?_ | refine Owe.mk ?_ ?_) | (refine Fork.same ?_; (first | refine fkD ?_ ?_ | refine fkN ?_ ?_ | refine fkM ?_ ?_) <;> intro h) | refine MvQ.stay ?_)
            rw [bad (fun ⟨v', h1, _, h3, _⟩ => by have := only h1; subst this; exact h (by rw [h3]))]
            (refine rqK rfl ?_; (repeat' first | exact rfl | (refine qS ?_; constructor)))
          · refine Exists.intro _ (Exists.intro _ (Exists.intro _ (And.intro rfl ?_)))
            (repeat' first | (refine Owe.same ?_; first | refine Owe.o ?_ | refine Owe.mk ?_ ?_) | (refine Fork.same ?_; (first | refine fkD ?_ ?_ | refine fkN ?_ ?_ | refine fkM ?_ ?_) <;> intro h) | refine MvQ.stay ?_)
            rw [bad (fun ⟨v', h1, _, _, h4⟩ => by rw [bs_size] at h; omega)]
            (refine rqK rfl ?_; (repeat' first | exact rfl | (refine qS ?_; constructor)))
          · have hz : itoa v = rest := by simpa [bs] using (‹(bs (itoa v)).data.toList = (bs rest).data.toList›)
            have hnt := ntV_ok hd hv (by omega) hz (by rw [bs_size] at h; omega)
            have e : naL d (cutG 32 [] s) = some (acc ++ [v]) := by rw [hcut, cutG_miss hm, List.nil_append, naL, alL_app hdn, hnt]
            rw [e]
            refine Exists.intro _ (Exists.intro _ (Exists.intro _ (And.intro rfl ?_)))
            (repeat' first | (refine Owe.same ?_; first | refine Owe.o ?_ | refine Owe.mk ?_ ?_) | (refine Fork.same ?_; (first | refine fkD ?_ ?_ | refine fkN ?_ ?_ | refine fkM ?_ ?_) <;> intro h) | refine MvQ.stay ?_)
            refine rqF 0 _ rfl rfl rfl ?_; (repeat' first | exact rfl | (refine qS ?_; constructor))
            · exact ⟨v, rfl, rfl⟩
        · obtain ⟨m, h88⟩ := C191e (fun v hv => hok ⟨v, hv⟩) (show rest.length ≤ 1000000 by omega)
          have hbad : naL d (cutG 32 [] s) = none := naL_bad (rr := []) (hcut.trans (by rw [cutG_miss hm, List.nil_append])) (ntV_no hd (w := rest) (fun ⟨v, hv, _⟩ => hok ⟨v, hv⟩))
          refine Ops.yd rfl rfl rfl rfl rfl ?_
          (repeat' first | (refine Owe.same ?_; first | refine Owe.o ?_ | refine Owe.mk ?_ ?_) | (refine Fork.same ?_; (first | refine fkD ?_ ?_ | refine fkN ?_ ?_ | refine fkM ?_ ?_) <;> intro h) | refine MvQ.stay ?_)
          refine And.intro rfl (Exists.intro _ (And.intro rfl ?_))
          (repeat' first | (refine Owe.same ?_; first | refine Owe.o ?_ | refine Owe.mk ?_ ?_) | (refine Fork.same ?_; (first | refine fkD ?_ ?_ | refine fkN ?_ ?_ | refine fkM ?_ ?_) <;> intro h) | ((first | refine OpsL.same ?_ | refine OpsDL.same ?_); first | refine pK h88 rfl rfl ?_) | refine MvQ.stay ?_)
          refine Exists.intro _ (Exists.intro _ (Exists.intro _ (And.intro rfl ?_)))
          (repeat' first | (refine Owe.same ?_; first | refine Owe.o ?_ | refine Owe.mk ?_ ?_) | (refine Fork.same ?_; (first | refine fkD ?_ ?_ | refine fkN ?_ ?_ | refine fkM ?_ ?_) <;> intro h) | refine MvQ.stay ?_)
          rw [hbad]
          (refine rqK rfl ?_; (repeat' first | exact rfl | (refine qS ?_; constructor)))
      · exact absurd (by decide) h
    · have h124 := C249 (l := p ++ 32 :: r) (c := 32)
      rw [hi] at h124
      have hsz : (bs (p ++ 32 :: r)).size = p.length + r.length + 1 := by rw [bs_size]; simp; omega
      have hs1 : (ByteArray.mk #[32]).size = 1 := rfl
      (repeat' first | (refine Owe.same ?_; first | refine Owe.o ?_ | refine Owe.mk ?_ ?_) | (refine Fork.same ?_; (first | refine fkD ?_ ?_ | refine fkN ?_ ?_ | refine fkM ?_ ?_) <;> intro h) | ((first | refine OpsL.same ?_ | refine OpsDL.same ?_); first | refine pK h124 rfl rfl ?_) | refine MvQ.stay ?_)
      · omega
      · rw [show (bs (acc, p ++ 32 :: r).snd).size = _ from hsz]
        have hlp : p.length + r.length ≤ 1000000 := by simp at hlen; omega
        exact ob
      refine OpsL.as 40 (sv p) ?_ ?_
      · refine VEq.str ?_
        rw [cutB_bs]; simp
      have hlp : p.length + r.length ≤ 1000000 := by simp at hlen; omega
      by_cases hok : ∃ v, atoiAll p = .ok v
      · obtain ⟨v, hv⟩ := hok
        have h88 := C191o hv (by omega)
        have h84 := C181 (atoi_i64 hv)
        refine Ops.yd rfl rfl rfl rfl rfl ?_
        (repeat' first | (refine Owe.same ?_; first | refine Owe.o ?_ | refine Owe.mk ?_ ?_) | (refine Fork.same ?_; (first | refine fkD ?_ ?_ | refine fkN ?_ ?_ | refine fkM ?_ ?_) <;> intro h) | refine MvQ.stay ?_)
        refine And.intro rfl (Exists.intro _ (And.intro rfl ?_))
        have bad : (¬ ∃ v, atoiAll p = .ok v ∧ 0 ≤ v ∧ itoa v = p ∧ (p.length : Int) ≤ d) → naL d (cutG 32 [] s) = none := fun hh => naL_bad (hcut.trans (by rw [cutG_hit hm, List.nil_append])) (ntV_no hd hh)
        have only : ∀ {v'}, atoiAll p = .ok v' → v' = v := fun h => by rw [hv] at h; injection h with h; exact h.symm
        (repeat' first | (refine Owe.same ?_; first | refine Owe.o ?_ | refine Owe.mk ?_ ?_) | (refine Fork.same ?_; (first | refine fkD ?_ ?_ | refine fkN ?_ ?_ | refine fkM ?_ ?_) <;> intro h) | ((first | refine OpsL.same ?_ | refine OpsDL.same ?_); first | refine pK h88 rfl rfl ?_ | refine pK h84 rfl rfl ?_) | refine MvQ.stay ?_)
        · refine Exists.intro _ (Exists.intro _ (Exists.intro _ (And.intro rfl ?_)))
          (repeat' first | (refine Owe.same ?_; first | refine Owe.o ?_ | refine Owe.mk ?_ ?_) | (refine Fork.same ?_; (first | refine fkD ?_ ?_ | refine fkN ?_ ?_ | refine fkM ?_ ?_) <;> intro h) | refine MvQ.stay ?_)
          rw [bad (fun ⟨v', h1, h2, _⟩ => by have := only h1; omega)]
          (refine rqK rfl ?_; (repeat' first | exact rfl | (refine qS ?_; constructor)))
        · refine Exists.intro _ (Exists.intro _ (Exists.intro _ (And.intro rfl ?_)))
          (repeat' first | (refine Owe.same ?_; first | refine Owe.o ?_ | refine Owe.mk ?_ ?_) | (refine Fork.same ?_; (first | refine fkD ?_ ?_ | refine fkN ?_ ?_ | refine fkM ?_ ?_) <;> intro h) | refine MvQ.stay ?_)
          rw [bad (fun ⟨v', h1, _, h3, _⟩ => by have := only h1; subst this; exact h (by rw [h3]))]
          (refine rqK rfl ?_; (repeat' first | exact rfl | (refine qS ?_; constructor)))
        · refine Exists.intro _ (Exists.intro _ (Exists.intro _ (And.intro rfl ?_)))
          (repeat' first | (refine Owe.same ?_; first | refine Owe.o ?_ | refine Owe.mk ?_ ?_) | (refine Fork.same ?_; (first | refine fkD ?_ ?_ | refine fkN ?_ ?_ | refine fkM ?_ ?_) <;> intro h) | refine MvQ.stay ?_)
          rw [bad (fun ⟨v', h1, _, _, h4⟩ => by rw [bs_size] at h; omega)]
          (refine rqK rfl ?_; (repeat' first | exact rfl | (refine qS ?_; constructor)))
        · refine Exists.intro _ (Exists.intro _ (Exists.intro _ (And.intro rfl ?_)))
          (repeat' first | (refine Owe.same ?_; first | refine Owe.o ?_ | refine Owe.mk ?_ ?_) | (refine Fork.same ?_; (first | refine fkD ?_ ?_ | refine fkN ?_ ?_ | refine fkM ?_ ?_) <;> intro h) | refine MvQ.stay ?_)
          have hz : itoa v = p := by simpa [bs] using (‹(bs (itoa v)).data.toList = (bs p).data.toList›)
          have hnt := ntV_ok hd hv (by omega) hz (by rw [bs_size] at h; omega)
          refine again (acc ++ [v], r) [8] ⟨by simp at hlen ⊢; omega, dn ++ [p], by rw [hcut, cutG_hit hm]; simp, by rw [naL, alL_app hdn, hnt]⟩ (by simp; omega) ?_
          (refine qis ?_ ?_ <;> (repeat' first | exact rfl | (refine qS ?_; constructor)))
          · simp
          · refine CEq.str ?_
            have e : ((p.length : Int) + ((ByteArray.mk #[32]).size : Nat)).toNat = p.length + 1 := by rw [hs1]; omega
            rw [e]
            simp [bs]
      · obtain ⟨m, h88⟩ := C191e (fun v hv => hok ⟨v, hv⟩) (show p.length ≤ 1000000 by omega)
        have hbad : naL d (cutG 32 [] s) = none := naL_bad (hcut.trans (by rw [cutG_hit hm, List.nil_append])) (ntV_no hd (w := p) (fun ⟨v, hv, _⟩ => hok ⟨v, hv⟩))
        refine Ops.yd rfl rfl rfl rfl rfl ?_
        (repeat' first | (refine Owe.same ?_; first | refine Owe.o ?_ | refine Owe.mk ?_ ?_) | (refine Fork.same ?_; (first | refine fkD ?_ ?_ | refine fkN ?_ ?_ | refine fkM ?_ ?_) <;> intro h) | refine MvQ.stay ?_)
        refine And.intro rfl (Exists.intro _ (And.intro rfl ?_))
        (repeat' first | (refine Owe.same ?_; first | refine Owe.o ?_ | refine Owe.mk ?_ ?_) | (refine Fork.same ?_; (first | refine fkD ?_ ?_ | refine fkN ?_ ?_ | refine fkM ?_ ?_) <;> intro h) | ((first | refine OpsL.same ?_ | refine OpsDL.same ?_); first | refine pK h88 rfl rfl ?_) | refine MvQ.stay ?_)
        refine Exists.intro _ (Exists.intro _ (Exists.intro _ (And.intro rfl ?_)))
        (repeat' first | (refine Owe.same ?_; first | refine Owe.o ?_ | refine Owe.mk ?_ ?_) | (refine Fork.same ?_; (first | refine fkD ?_ ?_ | refine fkN ?_ ?_ | refine fkM ?_ ?_) <;> intro h) | refine MvQ.stay ?_)
        rw [hbad]
        (refine rqK rfl ?_; (repeat' first | exact rfl | (refine qS ?_; constructor)))
theorem ntV_some {d n : Int} {w : By} (h : numV w d = some n) (h0 : 0 ≤ n) : ntV d w = some n := by unfold ntV; rw [h]; simp [h0]
end Go.Pw
set_option linter.unusedVariables false
set_option maxHeartbeats 2000000
set_option maxRecDepth 100000
namespace Go.Pw
open Go Go.Proofs
end Go.Pw

set_option linter.unusedSimpArgs false
set_option linter.unusedVariables false
set_option maxHeartbeats 1000000
namespace Go.Pw
open Go.RowKit Go.Lib
set_option maxRecDepth 2000
open Go Go.Proofs A1 A2 A3 A4
theorem C31 {l : List Int} : (l.length ≤ 1000 ∧ ∀ n ∈ l, i64P n) → PFD Tryz.prog 31 [.c (ints l)] (sv (wdS l)) := fun h => by
  have h109 := C109 h
  refine pi1 fn31 ?_
  (repeat' first | (refine Owe.same ?_; first | refine Owe.o ?_ | refine Owe.mk ?_ ?_) | (refine Fork.same ?_; (first | refine fkD ?_ ?_ | refine fkN ?_ ?_ | refine fkM ?_ ?_) <;> intro h) | ((first | refine OpsL.same ?_ | refine OpsDL.same ?_); first | refine pK h109 rfl rfl ?_) | refine MvQ.stay ?_)
  (refine rqK rfl ?_; (repeat' first | exact rfl | (refine qS ?_; constructor)))
theorem i64_4 {a b c d : Int} (h1 : i64P a) (h2 : i64P b) (h3 : i64P c) (h4 : i64P d) : ∀ n ∈ [a, b, c, d], i64P n := fun n hn => by
  simp only [List.mem_cons, List.not_mem_nil, or_false] at hn
  rcases hn with rfl | rfl | rfl | rfl <;> assumption
structure St64 (q : St8) : Prop where
  l : q.d.length ≤ 1000
  p : i64P q.p
  t : i64P q.t
  w : i64P q.w
  o : i64P q.o
  d : ∀ n ∈ q.d, i64P n
def stS (t : St8) : By := wdS [t.p, t.t, t.w, t.o] ++ 47 :: wdS t.d
theorem C29 {t : St8} : St64 t → PFD Tryz.prog 29 [stv t] (sv (stS t)) := fun h => by
  have h1 := C109 (l := [t.p, t.t, t.w, t.o]) ⟨by simp, i64_4 h.p h.t h.w h.o⟩
  have h2 := C109 (l := t.d) ⟨h.l, h.d⟩
  have z1 := wd_len (i64_4 h.p h.t h.w h.o)
  have z2 := wd_len h.d
  have hl := h.l
  have e : stS t = wdS [t.p, t.t, t.w, t.o] ++ 47 :: wdS t.d := rfl
  rw [e]
  have hk1 : (bs (wdS [t.p, t.t, t.w, t.o])).size ≤ 100 := by rw [bs_size]; simp at z1; omega
  have hk2 : (bs (wdS t.d)).size ≤ 22000 := by rw [bs_size]; omega
  generalize wdS [t.p, t.t, t.w, t.o] = A at *
  generalize wdS t.d = B at *
  clear z1 z2 e
  have hs1 : (ByteArray.mk #[47]).size = 1 := rfl
  have o1 : (((bs A).size + (ByteArray.mk #[47]).size : Nat) : Int) ≤ 9223372036854775807 := by omega
  have o2 : (((bs (A ++ [47])).size + (bs B).size : Nat) : Int) ≤ 9223372036854775807 := by
    have : (bs (A ++ [47])).size = (bs A).size + 1 := by rw [bs_size, bs_size]; simp
    omega
  refine pi1 fn29 ?_
  (repeat' first | (refine Owe.same ?_; refine Owe.mk ?_ ?_) | (refine Fork.same ?_; (first | refine fkD ?_ ?_ | refine fkN ?_ ?_ | refine fkM ?_ ?_) <;> intro h) | ((first | refine OpsL.same ?_ | refine OpsDL.same ?_); first | refine oK h2 rfl rfl rfl ?_) | refine MvQ.stay ?_)
  · trivial
  ((first | refine OpsL.same ?_ | refine OpsDL.same ?_); first | refine pK h1 rfl rfl ?_)
  (repeat' first | (refine Owe.same ?_; refine Owe.mk ?_ ?_) | (refine Fork.same ?_; (first | refine fkD ?_ ?_ | refine fkN ?_ ?_ | refine fkM ?_ ?_) <;> intro h) | ((first | refine OpsL.same ?_ | refine OpsDL.same ?_); first | refine oK h2 rfl rfl rfl ?_) | refine MvQ.stay ?_)
  · exact o1
  · exact o2
  · (refine rqK rfl ?_; (repeat' first | exact rfl | (refine qS ?_; constructor)))
    refine VEq.str ?_
    simp [bs]
end Go.Pw
set_option linter.unusedSimpArgs false
set_option linter.unusedVariables false
set_option maxHeartbeats 1000000
namespace Go.Pw
open Go.RowKit Go.Lib
set_option maxRecDepth 2000
open Go Go.Proofs A1 A2 A3 A4
end Go.Pw

set_option linter.unusedSimpArgs false
set_option linter.unusedVariables false
set_option maxRecDepth 20000
set_option maxHeartbeats 1000000
namespace Go.Pw
open Go Go.RowKit Go.Lib Go.Sort
open Go.Proofs
theorem RepL.four {Γ : Cx} {w : World} {a b c d : V} {us : Array Value} (h : RepL Γ w [a, b, c, d] us) : ∃ u v x y, us = #[u, v, x, y] ∧ RepV Γ w a u ∧ RepV Γ w b v ∧ RepV Γ w c x ∧ RepV Γ w d y := by
  obtain ⟨us⟩ := us
  have h1 := h.1
  match us, h1 with
  | [u, v, x, y], _ => exact ⟨u, v, x, y, rfl, h.2 0 _ _ rfl rfl, h.2 1 _ _ rfl rfl, h.2 2 _ _ rfl rfl, h.2 3 _ _ rfl rfl⟩
theorem split_bs {s : By} {c : UInt8} : splitB ⟨#[c]⟩ 0 (countB (bs s) ⟨#[c]⟩) (bs s) = (cutG c [] s).map bs := by
  have h := splitB_data ⟨#[c]⟩ 0 (countB (bs s) ⟨#[c]⟩) (bs s)
  have hc : countB (bs s) ⟨#[c]⟩ = s.count c := count_one c s
  have h2 : splitK [c] 0 (countB (bs s) ⟨#[c]⟩) s = cutG c [] s := split_cut _ s hc.symm
  have h3 : (splitB ⟨#[c]⟩ 0 (countB (bs s) ⟨#[c]⟩) (bs s)).map (·.data.toList) = cutG c [] s := h.trans h2
  rw [← h3, List.map_map]
  exact (List.map_id _).symm.trans (List.map_congr_left fun x _ => by simp [bs])
theorem split_sz {s : By} {c : UInt8} : countB (bs s) ⟨#[c]⟩ + 1 = (cutG c [] s).length := by
  have h := splitB_all ⟨#[c]⟩ (Nat.le_refl 1) 0 _ (bs s) rfl
  rw [split_bs, List.length_map] at h
  exact h.symm
theorem C185 {s : By} {c : UInt8} : s.length ≤ 1000000 → PFD Tryz.prog 185 [sv s, .c (.d (.v (.string ⟨#[c]⟩))), vi .i64 0, vi .i64 (-1)] (.c (sts (cutG c [] s))) := fun hs => by
  refine pfd_below Tryz.call185 fun Γ w us hst hr => ?_
  obtain ⟨u, v, x, y, rfl, hu, hv, hx, hy⟩ := hr.four
  cases hu.vv; cases hv.vv; cases hx.vv; cases hy.vv
  have hz : (bs s).size = s.length := bs_size s
  have hle := countB_le ⟨#[c]⟩ (Nat.le_refl 1) (bs s).size (bs s) (Nat.le_refl _)
  have h := Any.strings_genSplit_core sh_lays221 (by kernel_rfl) (bs s) ⟨#[c]⟩ 0 (-1) (countB (bs s) ⟨#[c]⟩ + 1) w (by omega) (Nat.le_refl 1) (Nat.zero_le _)
    (fun x cs hx => by
      refine (sh_strings_Index_one x c (w.alloc (.cells cs 9))).mono ?_
      rintro e w' ⟨rfl, rfl⟩
      exact ⟨by rw [← index_one], rfl⟩)
    (by
      refine (sh_strings_Count_one (bs s) c w).mono ?_
      rintro e w' ⟨rfl, rfl⟩
      refine ⟨?_, rfl⟩
      show _ = Ending.returned (Value.int .i64 ((Lib.count (bs s).data.toList [c] : Nat) : Int))
      rw [count_one]; rfl) (by decide) (by decide) (by rw [if_pos (by decide)]; omega)
  rw [Nat.add_sub_cancel, split_bs, List.length_map, split_sz] at h
  have e2 : Lib.cellsOf ((cutG c [] s).map bs) (cutG c [] s).length = (((cutG c [] s).map bs).map Value.string).toArray := by
    have := Lib.cellsOf_full ((cutG c [] s).map bs)
    rw [List.length_map] at this; exact this
  rw [e2] at h
  refine Calls.mono h ?_
  generalize cutG c [] s = L
  rintro e w' ⟨rfl, rfl⟩
  refine ⟨_, rfl, (Below.refl _ _).alloc (Nat.le_refl _) _, .c _ _ ?_⟩
  refine RepD.sl 1 L.length _ ⟨w.heap.size, 0, none⟩ L.length (fun i j => .string (bs (L.getD i []))) (Nat.le_refl _) (.inr ⟨Nat.le_refl _, by simp⟩) (fun i hi => rfl) ?_ ?_
  · intro i j d hi hj
    have hj0 : j = 0 := by
      have : j < 1 := (List.getElem?_eq_some_iff.1 hj).1
      omega
    subst hj0
    have e : (Addr.mk w.heap.size 0 none).add (i * 1 + 0) = ⟨w.heap.size, i, none⟩ := by
      unfold Addr.add
      split
      · rename_i h0; simp at h0; rw [h0]
      · simp
    rw [e]
    simp only [World.cell?]
    have e3 : (w.alloc (.cells ((L.map bs).map Value.string).toArray 9)).heap[w.heap.size]? = some (.cells ((L.map bs).map Value.string).toArray 9) := by show (w.heap.push _)[w.heap.size]? = _; exact Array.getElem?_push_size ..
    have e4 : (w.alloc (.cells ((L.map bs).map Value.string).toArray (sh_lays221_ren.t 9))).heap[w.heap.size]? = some (.cells ((L.map bs).map Value.string).toArray 9) := e3
    rw [e4]
    show ((L.map bs).map Value.string).toArray[i]? = _
    rw [List.getElem?_toArray, List.getElem?_map, List.getElem?_map, List.getElem?_eq_getElem hi, List.getD_eq_getElem?_getD, List.getElem?_eq_getElem hi]
    rfl
  · intro i j d hi hj
    have hj0 : j = 0 := by
      have : j < 1 := (List.getElem?_eq_some_iff.1 hj).1
      omega
    subst hj0
    injection hj with hj
    rw [← hj]
    exact .v _ rfl
end Go.Pw
set_option linter.unusedSimpArgs false
set_option linter.unusedVariables false
set_option maxHeartbeats 1000000
namespace Go.Pw
open Go.RowKit Go.Lib
set_option maxRecDepth 2000
open Go Go.Proofs A1 A2 A3 A4
theorem C94 {s : By} {c : UInt8} : s.length ≤ 1000000 → PFD Tryz.prog 94 [sv s, .c (.d (.v (.string ⟨#[c]⟩)))] (.c (sts (cutG c [] s))) := fun hs => by
  have h := C185 (c := c) hs
  refine pi1 fn94 ?_
  (repeat' first | (refine Owe.same ?_; first | refine Owe.o ?_ | refine Owe.mk ?_ ?_) | (refine Fork.same ?_; (first | refine fkD ?_ ?_ | refine fkN ?_ ?_ | refine fkM ?_ ?_) <;> intro h) | ((first | refine OpsL.same ?_ | refine OpsDL.same ?_); first | refine pK h rfl rfl ?_) | refine MvQ.stay ?_)
  (refine rqK rfl ?_; (repeat' first | exact rfl | (refine qS ?_; constructor)))
def ppE (s : By) : List Int × Int := if 60000 < s.length then ([], 8) else if s = [] then ([], 0) else match naL 2 (cutG 32 [] s) with
  | none => ([], 7)
  | some v => (v, 0)
theorem C112y {s : By} {d : Int} {l : List Int} (h : naL d (cutG 32 [] s) = some l) (hs : s.length ≤ 1000000) (hd : d ≤ 18) : PFD Tryz.prog 112 [sv s, vi .i64 d] (.tup [.c (ints l), vbl true]) := by
  have := C112 (s := s) ⟨hs, hd⟩; rw [h] at this; exact this
theorem C112n {s : By} {d : Int} (h : naL d (cutG 32 [] s) = none) (hs : s.length ≤ 1000000) (hd : d ≤ 18) : PFD Tryz.prog 112 [sv s, vi .i64 d] (.tup [.c (ints []), vbl false]) := by
  have := C112 (s := s) ⟨hs, hd⟩; rw [h] at this; exact this
theorem hPc {s : By} {c : UInt8} (hs : s.length ≤ 900000) : (cutG c [] s).length ≤ 1000000 ∧ ∀ x ∈ cutG c [] s, x.length ≤ 1000000 :=
  ⟨by have := cut_count (c := c) (l := s) (acc := []); omega, fun x hx => by have := cut_len x hx; simp at this; omega⟩
theorem C35 {s : By} : s.length ≤ 100000 → PFD Tryz.prog 35 [sv s] (.tup [.c (ints (ppE s).1), vi .i64 (ppE s).2]) := fun hs => by
  have hz : (bs s).size = s.length := bs_size s
  by_cases hb : 60000 < s.length
  · rw [show ppE s = ([], 8) by unfold ppE; rw [if_pos hb]]
    refine pi2 fn35 ?_
    (repeat' first | (refine Owe.same ?_; first | refine Owe.o ?_ | refine Owe.mk ?_ ?_) | (refine Fork.same ?_; (first | refine fkD ?_ ?_ | refine fkN ?_ ?_ | refine fkM ?_ ?_) <;> (intro h; try (exfalso; omega))) | refine MvQ.stay ?_)
    (refine rqK rfl ?_; (repeat' first | exact rfl | (refine qS ?_; constructor)))
  by_cases h0 : s = []
  · rw [show ppE s = ([], 0) by unfold ppE; rw [if_neg hb, if_pos h0]]
    subst h0
    refine pi2 fn35 ?_
    (repeat' first | (refine Owe.same ?_; first | refine Owe.o ?_ | refine Owe.mk ?_ ?_) | (refine Fork.same ?_; (first | refine fkD ?_ ?_ | refine fkN ?_ ?_ | refine fkM ?_ ?_) <;> (intro h; try (exfalso; omega))) | refine MvQ.stay ?_)
    · (refine rqK rfl ?_; (repeat' first | exact rfl | (refine qS ?_; constructor)))
    · rename_i h; exact absurd rfl h
  have hne : ¬ (bs s).data.toList = (ByteArray.mk #[]).data.toList := fun h => h0 (by simpa [bs] using h)
  cases hv : naL 2 (cutG 32 [] s) with
  | none =>
    rw [show ppE s = ([], 7) by unfold ppE; rw [if_neg hb, if_neg h0, hv]]
    have h51 := C112n hv (by omega) (by decide)
    refine pi2 fn35 ?_
    (repeat' first | (refine Owe.same ?_; first | refine Owe.o ?_ | refine Owe.mk ?_ ?_) | (refine Fork.same ?_; (first | refine fkY ?_ | refine fkF ?_ | ((first | refine fkD ?_ ?_ | refine fkN ?_ ?_ | refine fkM ?_ ?_) <;> (intro h; try (exfalso; omega))))) | ((first | refine OpsL.same ?_ | refine OpsDL.same ?_); first | refine oK h51 rfl rfl rfl ?_) | refine MvQ.stay ?_)
    (refine rqK rfl ?_; (repeat' first | exact rfl | (refine qS ?_; constructor)))
  | some v =>
    rw [show ppE s = (v, 0) by unfold ppE; rw [if_neg hb, if_neg h0, hv]]
    have h51 := C112y hv (by omega) (by decide)
    refine pi2 fn35 ?_
    (repeat' first | (refine Owe.same ?_; first | refine Owe.o ?_ | refine Owe.mk ?_ ?_) | (refine Fork.same ?_; (first | refine fkY ?_ | refine fkF ?_ | ((first | refine fkD ?_ ?_ | refine fkN ?_ ?_ | refine fkM ?_ ?_) <;> (intro h; try (exfalso; omega))))) | ((first | refine OpsL.same ?_ | refine OpsDL.same ?_); first | refine oK h51 rfl rfl rfl ?_) | refine MvQ.stay ?_)
    (refine rqK rfl ?_; (repeat' first | exact rfl | (refine qS ?_; constructor)))
abbrev stZ : St8 := ⟨0, 0, 0, 0, []⟩
def sdV (q : List Int) (b : By) : St8 × Int := match q with
  | [p, t, w, o] => if b = [] then (⟨p, t, w, o, []⟩, 0) else match naL 9 (cutG 32 [] b) with
    | some d => (⟨p, t, w, o, d⟩, 0)
    | none => (stZ, 7)
  | _ => (stZ, 7)
def sdE (s : By) : St8 × Int := if 60000 < s.length then (stZ, 8) else match cutG 47 [] s with
  | [a, b] => match naL 9 (cutG 32 [] a) with
    | some q => sdV q b
    | none => (stZ, 7)
  | _ => (stZ, 7)
theorem sdE_two {s a b : By} (hs : ¬ 60000 < s.length) (h : cutG 47 [] s = [a, b]) : sdE s = match naL 9 (cutG 32 [] a) with
    | some q => sdV q b
    | none => (stZ, 7) := by unfold sdE; rw [if_neg hs, h]
theorem sdE_not {s : By} (hs : ¬ 60000 < s.length) (h : (cutG 47 [] s).length ≠ 2) : sdE s = (stZ, 7) := by
  unfold sdE; rw [if_neg hs]
  split
  · rename_i h1; rw [h1] at h; exact absurd rfl h
  · rfl
theorem sdV_not {q : List Int} {b : By} (h : q.length ≠ 4) : sdV q b = (stZ, 7) := by
  unfold sdV
  split
  · exact absurd rfl h
  · rfl
theorem C34 {s : By} : s.length ≤ 100000 → PFD Tryz.prog 34 [sv s] (.tup [stv (sdE s).1, vi .i64 (sdE s).2]) := fun hs => by
  have hz : (bs s).size = s.length := bs_size s
  by_cases hb : 60000 < s.length
  · rw [show sdE s = (stZ, 8) by unfold sdE; rw [if_pos hb]]
    refine pi2 fn34 ?_
    (repeat' first | (refine Owe.same ?_; first | refine Owe.o ?_ | refine Owe.mk ?_ ?_) | (refine Fork.same ?_; (first | refine fkD ?_ ?_ | refine fkN ?_ ?_ | refine fkM ?_ ?_) <;> (intro h; try (exfalso; omega))) | refine MvQ.stay ?_)
    (refine rqK rfl ?_; (repeat' first | exact rfl | (refine qS ?_; constructor)))
  have c94 := C94 (s := s) (c := 47) (by omega)
  have hW := hPc (s := s) (c := 47) (by omega)
  by_cases h2 : (cutG 47 [] s).length = 2
  · obtain ⟨a, b, hab⟩ : ∃ a b, cutG 47 [] s = [a, b] := by
      match h : cutG 47 [] s, h2 with
      | [a, b], _ => exact ⟨a, b, rfl⟩
    rw [sdE_two hb hab]
    rw [hab] at c94 hW
    have ha : a.length ≤ 1000000 := hW.2 a (by simp)
    have hbl : b.length ≤ 1000000 := hW.2 b (by simp)
    have e2 : [a, b].length = 2 := rfl
    clear hW h2 hab
    cases hv : naL 9 (cutG 32 [] a) with
    | none =>
      have h51 := C112n hv ha (by decide)
      refine pi2 fn34 ?_
      (repeat' first | (refine Owe.same ?_; first | refine Owe.o ?_ | refine Owe.mk ?_ ?_) | (refine Fork.same ?_; (first | refine fkY ?_ | refine fkF ?_ | ((first | refine fkD ?_ ?_ | refine fkN ?_ ?_ | refine fkM ?_ ?_) <;> (intro h; try (exfalso; omega))))) | ((first | refine OpsL.same ?_ | refine OpsDL.same ?_); first | refine oK c94 rfl rfl rfl ?_ | refine oK h51 rfl rfl rfl ?_) | refine MvQ.stay ?_)
      (refine rqK rfl ?_; (repeat' first | exact rfl | (refine qS ?_; constructor)))
    | some q =>
      have h51 := C112y hv ha (by decide)
      clear hv
      show PFD Tryz.prog 34 [sv s] (.tup [stv (sdV q b).1, vi .i64 (sdV q b).2])
      by_cases hq : q.length = 4
      · obtain ⟨p, t, w, o, rfl⟩ : ∃ p t w o, q = [p, t, w, o] := by
          match q, hq with
          | [p, t, w, o], _ => exact ⟨p, t, w, o, rfl⟩
        have e4 : [p, t, w, o].length = 4 := rfl
        by_cases h0 : b = []
        · subst h0
          rw [show sdV [p, t, w, o] [] = (⟨p, t, w, o, []⟩, 0) from rfl]
          have h9 : (bs ([] : By)).data.toList = (ByteArray.mk #[]).data.toList := rfl
          refine pi2 fn34 ?_
          (repeat' first | (refine Owe.same ?_; first | refine Owe.o ?_ | refine Owe.mk ?_ ?_) | (refine Fork.same ?_; (first | refine fkY ?_ | refine fkF ?_ | ((first | refine fkD ?_ ?_ | refine fkN ?_ ?_ | refine fkM ?_ ?_) <;> (intro h; try (exfalso; omega))))) | ((first | refine OpsL.same ?_ | refine OpsDL.same ?_); first | refine oK c94 rfl rfl rfl ?_ | refine oK h51 rfl rfl rfl ?_) | refine MvQ.stay ?_)
          (refine rqK rfl ?_; (repeat' first | exact rfl | (refine qS ?_; constructor)))
        · have hne : ¬ (bs ([a, b].getD (Int.toNat 1) [])).data.toList = (ByteArray.mk #[]).data.toList := fun h => h0 (by simpa [bs] using h)
          cases hv : naL 9 (cutG 32 [] b) with
          | none =>
            have h52 := C112n hv hbl (by decide)
            rw [show sdV [p, t, w, o] b = (stZ, 7) by unfold sdV; simp only; rw [if_neg h0, hv]]
            refine pi2 fn34 ?_
            (repeat' first | (refine Owe.same ?_; first | refine Owe.o ?_ | refine Owe.mk ?_ ?_) | (refine Fork.same ?_; (first | refine fkY ?_ | refine fkF ?_ | ((first | refine fkD ?_ ?_ | refine fkN ?_ ?_ | refine fkM ?_ ?_) <;> (intro h; try (exfalso; omega))))) | ((first | refine OpsL.same ?_ | refine OpsDL.same ?_); first | refine oK c94 rfl rfl rfl ?_ | refine oK h51 rfl rfl rfl ?_ | refine oK h52 rfl rfl rfl ?_) | refine MvQ.stay ?_)
            (refine rqK rfl ?_; (repeat' first | exact rfl | (refine qS ?_; constructor)))
          | some d =>
            have h52 := C112y hv hbl (by decide)
            rw [show sdV [p, t, w, o] b = (⟨p, t, w, o, d⟩, 0) by unfold sdV; simp only; rw [if_neg h0, hv]]
            refine pi2 fn34 ?_
            (repeat' first | (refine Owe.same ?_; first | refine Owe.o ?_ | refine Owe.mk ?_ ?_) | (refine Fork.same ?_; (first | refine fkY ?_ | refine fkF ?_ | ((first | refine fkD ?_ ?_ | refine fkN ?_ ?_ | refine fkM ?_ ?_) <;> (intro h; try (exfalso; omega))))) | ((first | refine OpsL.same ?_ | refine OpsDL.same ?_); first | refine oK c94 rfl rfl rfl ?_ | refine oK h51 rfl rfl rfl ?_ | refine oK h52 rfl rfl rfl ?_) | refine MvQ.stay ?_)
            (refine rqK rfl ?_; (repeat' first | exact rfl | (refine qS ?_; constructor)))
      · rw [sdV_not hq]
        refine pi2 fn34 ?_
        (repeat' first | (refine Owe.same ?_; first | refine Owe.o ?_ | refine Owe.mk ?_ ?_) | (refine Fork.same ?_; (first | refine fkY ?_ | refine fkF ?_ | ((first | refine fkD ?_ ?_ | refine fkN ?_ ?_ | refine fkM ?_ ?_) <;> (intro h; try (exfalso; omega))))) | ((first | refine OpsL.same ?_ | refine OpsDL.same ?_); first | refine oK c94 rfl rfl rfl ?_ | refine oK h51 rfl rfl rfl ?_) | refine MvQ.stay ?_)
        (refine rqK rfl ?_; (repeat' first | exact rfl | (refine qS ?_; constructor)))
  · rw [sdE_not hb h2]
    generalize cutG 47 [] s = W at *
    refine pi2 fn34 ?_
    (repeat' first | (refine Owe.same ?_; first | refine Owe.o ?_ | refine Owe.mk ?_ ?_) | (refine Fork.same ?_; (first | refine fkY ?_ | refine fkF ?_ | ((first | refine fkD ?_ ?_ | refine fkN ?_ ?_ | refine fkM ?_ ?_) <;> (intro h; try (exfalso; omega))))) | ((first | refine OpsL.same ?_ | refine OpsDL.same ?_); first | refine oK c94 rfl rfl rfl ?_) | refine MvQ.stay ?_)
    (refine rqK rfl ?_; (repeat' first | exact rfl | (refine qS ?_; constructor)))
end Go.Pw
set_option linter.unusedVariables false
set_option maxHeartbeats 2000000
set_option maxRecDepth 100000
namespace Go.Pw
open Go Go.Proofs
end Go.Pw

set_option linter.unusedSimpArgs false
set_option linter.unusedVariables false
set_option maxHeartbeats 1000000
namespace Go.Pw
open Go.RowKit Go.Lib
set_option maxRecDepth 2000
open Go Go.Proofs A1 A2 A3 A4
end Go.Pw

set_option linter.unusedSimpArgs false
set_option linter.unusedVariables false
set_option maxHeartbeats 1000000
namespace Go.Pw
open Go.RowKit Go.Lib
set_option maxRecDepth 2000
open Go Go.Proofs A1 A2 A3 A4
end Go.Pw

set_option linter.unusedSimpArgs false
set_option linter.unusedVariables false
set_option maxHeartbeats 1000000
namespace Go.Pw
open Go.RowKit Go.Lib
set_option maxRecDepth 2000
open Go Go.Proofs A1 A2 A3 A4
end Go.Pw

set_option linter.unusedSimpArgs false
set_option linter.unusedVariables false
set_option maxHeartbeats 1000000
namespace Go.Pw
open Go.RowKit Go.Lib
set_option maxRecDepth 2000
open Go Go.Proofs A1 A2 A3 A4
theorem dec_len_le : ∀ (k u : Nat), u < 10 ^ (k + 1) → (decDigits u).length ≤ k + 1
  | 0, u, h => by rw [decDigits_one (by simpa using h)]; simp
  | k + 1, u, h => by
    by_cases h1 : u < 10
    · rw [decDigits_one h1]; simp
    · rw [dec_big h1, List.length_append]
      have := dec_len_le k (u / 10) (by rw [Nat.pow_succ] at h; omega)
      simp; omega
theorem ntV_it {n : Int} (k : Nat) {d : Int} (hd : d ≤ 18) (hk : ((k + 1 : Nat) : Int) ≤ d) (h0 : 0 ≤ n) (h : n.natAbs < 10 ^ (k + 1)) : ntV d (itoa n) = some n :=
  ntV_some ((numV_iff hd).2 ⟨rfl, by have := dec_len_le k _ h; omega⟩) h0
theorem naL_wd {d : Int} {l : List Int} (h : ∀ n ∈ l, ntV d (itoa n) = some n) : naL d (wdL l) = some l := by
  have e : naL d (wdL l) = alL (ntV d) (l.map itoa) := rfl
  rw [e]; exact alL_map h
theorem no32 (n : Int) : (32 : UInt8) ∉ itoa n := itoa_no (by decide)
theorem cut_wd {l : List Int} (h : l ≠ []) : cutG 32 [] (wdS l) = wdL l := cut_jn (by simpa using h) (fun x hx => by
  obtain ⟨n, _, rfl⟩ := List.mem_map.1 hx
  exact no32 n)
theorem jn_no {c d : UInt8} (hcd : c ≠ d) : ∀ {l : List By}, (∀ x ∈ l, d ∉ x) → d ∉ jnG c l
  | [], _ => by simp [jnG]
  | [x], h => h x (by simp)
  | x :: y :: r, h => by
    rw [jn_cons (by simp), List.mem_append, List.mem_cons]
    intro hh
    rcases hh with h1 | h1 | h1
    · exact h x (by simp) h1
    · exact hcd h1.symm
    · exact jn_no hcd (fun z hz => h z (List.mem_cons_of_mem _ hz)) h1
theorem wd_no {c : UInt8} (hc : (32 : UInt8) ≠ c ∧ c ≠ 45 ∧ ¬ isDg c) (l : List Int) : c ∉ wdS l := jn_no hc.1 (fun x hx => by
  obtain ⟨n, _, rfl⟩ := List.mem_map.1 hx
  exact itoa_no hc.2)
theorem ppE_S {l : List Int} (h : ∀ n ∈ l, 0 ≤ n ∧ n ≤ 99) (hs : (wdS l).length ≤ 60000) : ppE (wdS l) = (l, 0) := by
  by_cases hl : l = []
  · subst hl; rfl
  have hc : naL 2 (cutG 32 [] (wdS l)) = some l := by
    rw [cut_wd hl]
    exact naL_wd fun n hn => ntV_it 1 (by decide) (by decide) (h n hn).1 (show n.natAbs < 100 by have := h n hn; omega)
  have hne : wdS l ≠ [] := fun e => by
    rw [e] at hc
    have h1 : naL 2 (cutG 32 [] []) = none := rfl
    rw [h1] at hc; cases hc
  unfold ppE
  rw [if_neg (by omega), if_neg hne, hc]
structure StR (q : St8) : Prop where
  p : 0 ≤ q.p ∧ q.p ≤ 100000000
  t : 0 ≤ q.t ∧ q.t ≤ 100000000
  w : 0 ≤ q.w ∧ q.w ≤ 100000000
  o : 0 ≤ q.o ∧ q.o ≤ 100000000
  d : ∀ n ∈ q.d, 0 ≤ n ∧ n ≤ 100000000
theorem nt9 {n : Int} (h : 0 ≤ n ∧ n ≤ 100000000) : ntV 9 (itoa n) = some n := ntV_it 8 (by decide) (by decide) h.1 (show n.natAbs < 1000000000 by omega)
theorem sdE_S {q : St8} (h : StR q) (hs : (stS q).length ≤ 60000) : sdE (stS q) = (q, 0) := by
  have h1 : (47 : UInt8) ∉ wdS [q.p, q.t, q.w, q.o] := wd_no (by decide) _
  have h2 : (47 : UInt8) ∉ wdS q.d := wd_no (by decide) _
  have hc : cutG 47 [] (stS q) = [wdS [q.p, q.t, q.w, q.o], wdS q.d] := by
    rw [stS, cutG_hit h1, cutG_miss h2]; rfl
  have ha : naL 9 (cutG 32 [] (wdS [q.p, q.t, q.w, q.o])) = some [q.p, q.t, q.w, q.o] := by
    rw [cut_wd (by simp)]
    exact naL_wd fun n hn => nt9 (by
      have := h.p; have := h.t; have := h.w; have := h.o
      simp only [List.mem_cons, List.not_mem_nil, or_false] at hn
      rcases hn with rfl | rfl | rfl | rfl <;> omega)
  rw [sdE_two (by omega) hc, ha]
  by_cases hd : q.d = []
  · obtain ⟨p, t, w, o, d⟩ := q
    simp only at hd
    subst hd; rfl
  · have hb : naL 9 (cutG 32 [] (wdS q.d)) = some q.d := by
      rw [cut_wd hd]; exact naL_wd fun n hn => nt9 (h.d n hn)
    have hne : wdS q.d ≠ [] := fun e => by
      rw [e] at hb
      have h1 : naL 9 (cutG 32 [] []) = none := rfl
      rw [h1] at hb; cases hb
    show sdV [q.p, q.t, q.w, q.o] (wdS q.d) = _
    unfold sdV
    simp only
    rw [if_neg hne, hb]
theorem asc_len {l : List Int} {b : Nat} (h : (ascE l b).2 = 0) : (∀ n ∈ l, 0 ≤ n ∧ n ≤ (b : Int) - 1) := fun n hn => by
  obtain ⟨i, hi, rfl⟩ := List.getElem_of_mem hn
  rw [ascE, eachN_ok] at h
  have := h i hi
  rw [ascN, fst2, unl0 (by decide), List.getD_eq_getElem?_getD, List.getElem?_eq_getElem hi] at this
  exact this.1
end Go.Pw
set_option linter.unusedSimpArgs false
set_option linter.unusedVariables false
set_option maxHeartbeats 4000000
namespace Go.Pw
set_option maxRecDepth 2000
open Go Go.Proofs A1 A2 A3 A4
theorem C75 {s : Si} {t : St8} : (SiSm s ∧ t.d.length ≤ 1000000) → PFD Tryz.prog 75 [siv s, stv t] (.tup [vbl (decide (onE s t = 0) && reB s t), vi .i64 (onE s t)]) := fun hs => by
  have c1 := C156 hs
  refine pi2 fn75 ?_
  by_cases h0 : onE s t = 0
  · have c2 := C165 (OnOk.of h0).b
    (repeat' first | (refine Owe.same ?_; first | refine Owe.o ?_ | refine Owe.mk ?_ ?_) | (refine Fork.same ?_; (first | refine fkD ?_ ?_ | refine fkN ?_ ?_ | refine fkM ?_ ?_) <;> intro h) | ((first | refine OpsL.same ?_ | refine OpsDL.same ?_); first | refine pK c1 rfl rfl ?_ | refine pK c2 rfl rfl ?_) | refine MvQ.stay ?_)
    · (refine rqK rfl ?_; (repeat' first | exact rfl | (refine qS ?_; constructor))); rw [decide_eq_true h0, Bool.true_and]
    · exact absurd h0 h
  · (repeat' first | (refine Owe.same ?_; first | refine Owe.o ?_ | refine Owe.mk ?_ ?_) | (refine Fork.same ?_; (first | refine fkD ?_ ?_ | refine fkN ?_ ?_ | refine fkM ?_ ?_) <;> intro h) | ((first | refine OpsL.same ?_ | refine OpsDL.same ?_); first | refine pK c1 rfl rfl ?_ | refine pK (C165 (s := s) (t := t)) rfl rfl ?_) | refine MvQ.stay ?_)
    · exact absurd h h0
    · (refine rqK rfl ?_; (repeat' first | exact rfl | (refine qS ?_; constructor))); rw [decide_eq_false h0, Bool.false_and]
theorem C77 {s : Si} {t : St8} : (SiSm s ∧ t.d.length ≤ 1000000) → PFD Tryz.prog 77 [siv s, stv t] (.tup [pr0 (decide (onE s t = 0)) (hmT s t) (hmT s t * s.swim), vi .i64 (onE s t)]) := fun hs => by
  have c1 := C156 hs
  refine pi2 fn77 ?_
  by_cases h0 : onE s t = 0
  · have c2 := C167 (OnOk.of h0).b
    rw [decide_eq_true h0]
    (repeat' first | (refine Owe.same ?_; first | refine Owe.o ?_ | refine Owe.mk ?_ ?_) | (refine Fork.same ?_; (first | refine fkD ?_ ?_ | refine fkN ?_ ?_ | refine fkM ?_ ?_) <;> intro h) | ((first | refine OpsL.same ?_ | refine OpsDL.same ?_); first | refine pK c1 rfl rfl ?_ | refine pK c2 rfl rfl ?_) | refine MvQ.stay ?_)
    · exact absurd h0 h
    · (refine rqK rfl ?_; (repeat' first | exact rfl | (refine qS ?_; constructor))); exact h0.symm
  · rw [decide_eq_false h0]
    (repeat' first | (refine Owe.same ?_; first | refine Owe.o ?_ | refine Owe.mk ?_ ?_) | (refine Fork.same ?_; (first | refine fkD ?_ ?_ | refine fkN ?_ ?_ | refine fkM ?_ ?_) <;> intro h) | ((first | refine OpsL.same ?_ | refine OpsDL.same ?_); first | refine pK c1 rfl rfl ?_ | refine pK (C167 (s := s) (t := t)) rfl rfl ?_) | refine MvQ.stay ?_)
    · (refine rqK rfl ?_; (repeat' first | exact rfl | (refine qS ?_; constructor)))
    · exact absurd h h0
theorem DI.tak3 {l : List Wt} {k : Nat} (hk : k ≤ l.length) : DI (.sl 3 k fun i => r3 (l.getD i (0, 0, 0))) (.sl 3 (l.take k).length fun i => r3 ((l.take k).getD i (0, 0, 0))) := by
  have e : (l.take k).length = k := by rw [List.length_take]; omega
  rw [e]
  refine DI.sl fun i hi => ?_
  have e2 : (l.take k).getD i (0, 0, 0) = l.getD i (0, 0, 0) := by simp only [List.getD_eq_getElem?_getD, List.getElem?_take, hi, if_true]
  rw [e2]
  exact DIs.refl _
theorem rsN_take {l : List Wt} {w : Wt} {k : Nat} : ∀ n, n ≤ k → rsN (l.take k) w n = rsN l w n
  | 0, _ => rfl
  | n + 1, h => by
    have e2 : (l.take k).getD n (0, 0, 0) = l.getD n (0, 0, 0) := by simp only [List.getD_eq_getElem?_getD, List.getElem?_take, show n < k from h, if_true]
    rw [rsN, rsN, e2, rsN_take n (by omega)]
theorem C173t {l : List Wt} {w : Wt} {k : Nat} (h : k ≤ l.length ∧ l.length ≤ 1000000 ∧ wtB w ∧ ∀ i, i < k → wtB (l.getD i (0, 0, 0))) : PFD Tryz.prog 173 [.c (.d (.sl 3 k fun i => r3 (l.getD i (0, 0, 0)))), wtv w] (.tup [vi .i64 (rsN l w k).1, vbl (rsN l w k).2]) := by
  have e : (l.take k).length = k := by rw [List.length_take]; omega
  have c := C173 (l := l.take k) (w := w) ⟨by omega, h.2.2.1, fun i hi => by
    have e2 : (l.take k).getD i (0, 0, 0) = l.getD i (0, 0, 0) := by simp only [List.getD_eq_getElem?_getD, List.getElem?_take, show i < k by omega, if_true]
    rw [e2]; exact h.2.2.2 i (by omega)⟩
  rw [e, rsN_take k (Nat.le_refl _)] at c
  exact PFD.ri c (.cons (RI.cI (DI.tak3 h.1)) (.cons (RI.refl _) .nil))
abbrev wtA (l : List Wt) (i : Nat) : Wt := l.getD i (0, 0, 0)
def nxW (x : Rt) (l : List Wt) (i : Nat) : Int := if i = 0 then x.lo else (wtA l (i - 1)).2.2 + 1
abbrev cwA (x : Rt) (l : List Wt) (i : Nat) : Int := fstE [unl (0 ≤ (wtA l i).1 ∧ (wtA l i).1 ≤ x.p - 1) 6, unl ((wtA l i).2.1 = nxW x l i) 13, unl ((wtA l i).2.1 ≤ (wtA l i).2.2 ∧ (wtA l i).2.2 ≤ x.hi) 2]
abbrev cwB (x : Rt) (l : List Wt) (i : Nat) : Int := fstE [unl ((wtA l i).2.2 + 1 - (wtA l i).2.1 ≤ x.w) 22, unb (!(rsN l (wtA l i) i).2 || decide (x.r ≤ (rsN l (wtA l i) i).1)) 24]
def cwN (x : Rt) (l : List Wt) (i : Nat) : Int := if cwA x l i = 0 then cwB x l i else cwA x l i
def cwE (x : Rt) (l : List Wt) : Int × Int := if rtE x = 0 then (if 40 < (l.length : Int) then (0, 8) else if (eachN (cwN x l) 0 l.length).2 = 0 then (0, unl (0 < (l.length : Int) ∧ nxW x l l.length = x.hi + 1) 21) else eachN (cwN x l) 0 l.length) else (0, rtE x)
theorem cwN_0 {x : Rt} {l : List Wt} {i : Nat} (h : cwN x l i = 0) : ((0 ≤ (wtA l i).1 ∧ (wtA l i).1 ≤ x.p - 1) ∧ (wtA l i).2.1 = nxW x l i ∧ (wtA l i).2.1 ≤ (wtA l i).2.2 ∧ (wtA l i).2.2 ≤ x.hi) ∧ (wtA l i).2.2 + 1 - (wtA l i).2.1 ≤ x.w ∧ ((rsN l (wtA l i) i).2 = true → x.r ≤ (rsN l (wtA l i) i).1) := by
  rw [cwN] at h
  split at h
  · rename_i h1
    rw [cwA, fst3, unl0 (by decide), unl0 (by decide), unl0 (by decide)] at h1
    rw [cwB, fst2, unl0 (by decide), unb_ok (by decide)] at h
    refine ⟨h1, h.1, fun h2 => ?_⟩
    have := h.2
    rw [h2] at this
    simpa using this
  · rename_i h1; exact absurd h h1
theorem nxW_bd {x : Rt} {l : List Wt} (hx : rtP x) : ∀ {i : Nat}, (∀ j, j < i → cwN x l j = 0) → 0 ≤ nxW x l i ∧ nxW x l i ≤ 100001
  | 0, _ => by have := hx.1; rw [nxW, if_pos rfl]; omega
  | i + 1, h => by
    have ih := nxW_bd hx (i := i) fun j hj => h j (by omega)
    have h1 := cwN_0 (h i (by omega))
    have h2 := hx.2.1
    rw [nxW, if_neg (by omega), Nat.add_sub_cancel]
    omega
theorem wtB_of {x : Rt} {l : List Wt} (hx : rtP x) {i : Nat} (h : ∀ j, j < i → cwN x l j = 0) : ∀ j, j < i → wtB (wtA l j) := fun j hj => by
  have h1 := cwN_0 (h j hj)
  have h2 := nxW_bd hx (i := j) fun k hk => h k (by omega)
  have h3 := hx.2.1
  simp only [wtB]
  omega
theorem C83 {x : Rt} {l : List Wt} : l.length ≤ 1000000 → PFD Tryz.prog 83 [rtv x, .c (trs l)] (.tup [vi .i64 (cwE x l).1, vi .i64 (cwE x l).2]) := fun hl => by
  obtain ⟨q, hq⟩ : ∃ q, q = cwE x l := ⟨_, rfl⟩
  rw [← hq]
  rw [cwE] at hq
  have c1 := C172 (x := x)
  by_cases h0 : rtE x = 0
  rotate_left
  · rw [if_neg h0] at hq
    generalize rtE x = e at *
    subst hq
    refine pi2 fn83 ?_
    (repeat' first | (refine Owe.same ?_; first | refine Owe.o ?_ | refine Owe.mk ?_ ?_) | (refine Fork.same ?_; (first | refine fkD ?_ ?_ | refine fkN ?_ ?_ | refine fkM ?_ ?_) <;> intro h) | ((first | refine OpsL.same ?_ | refine OpsDL.same ?_); first | refine pK c1 rfl rfl ?_ | refine pK C152 rfl rfl ?_ | refine pK C151 rfl rfl ?_) | refine MvQ.stay ?_)
    · (refine rqK rfl ?_; (repeat' first | exact rfl | (refine qS ?_; constructor)))
      rw [fstE, if_neg h0]
    · rw [fstE, if_neg h0] at h; exact absurd h h0
  rw [if_pos h0] at hq
  rw [h0] at c1
  obtain ⟨hx, hxo⟩ := rtE_ok h0
  by_cases h40 : 40 < (l.length : Int)
  · rw [if_pos h40] at hq
    subst hq
    have e : fstE [0, unb (decide ((l.length : Int) ≤ 40)) 8] = 8 := by rw [decide_eq_false (by omega)]; rfl
    refine pi2 fn83 ?_
    (repeat' first | (refine Owe.same ?_; first | refine Owe.o ?_ | refine Owe.mk ?_ ?_) | (refine Fork.same ?_; (first | refine fkD ?_ ?_ | refine fkN ?_ ?_ | refine fkM ?_ ?_) <;> intro h) | ((first | refine OpsL.same ?_ | refine OpsDL.same ?_); first | refine pK c1 rfl rfl ?_ | refine pK C152 rfl rfl ?_ | refine pK C151 rfl rfl ?_) | refine MvQ.stay ?_)
    · (refine rqK rfl ?_; (repeat' first | exact rfl | (refine qS ?_; constructor)))
      exact e
    · have h : fstE [0, unb (decide ((l.length : Int) ≤ 40)) 8] = 0 := h
      rw [e] at h; cases h
  rw [if_neg h40] at hq
  have e : fstE [0, unb (decide ((l.length : Int) ≤ 40)) 8] = 0 := by rw [decide_eq_true (by omega)]; rfl
  refine pi2 fn83 ?_
  (repeat' first | (refine Owe.same ?_; first | refine Owe.o ?_ | refine Owe.mk ?_ ?_) | (refine Fork.same ?_; (first | refine fkD ?_ ?_ | refine fkN ?_ ?_ | refine fkM ?_ ?_) <;> intro h) | ((first | refine OpsL.same ?_ | refine OpsDL.same ?_); first | refine pK c1 rfl rfl ?_ | refine pK C152 rfl rfl ?_ | refine pK C151 rfl rfl ?_) | refine MvQ.stay ?_)
  · exact absurd e h
  · clear h
    refine Ops.cs rfl rfl (CallS.of fn174 rfl ?_)
    (repeat' first | (refine Owe.same ?_; first | refine Owe.o ?_ | refine Owe.mk ?_ ?_) | (refine Fork.same ?_; (first | refine fkD ?_ ?_ | refine fkN ?_ ?_ | refine fkM ?_ ?_) <;> intro h) | refine MvQ.stay ?_)
    have hret : ∀ {k}, k < l.length → (∀ i, i < k → cwN x l i = 0) → ∀ {e}, cwN x l k = e → ¬ e = 0 → q = ((k : Int), e) := fun hk h1 e he h2 => by
      have e := eachN_e hk h1 (by rw [he]; exact h2)
      rw [if_neg (by rw [e, he]; exact h2), e, he] at hq; exact hq
    refine Sat.lp (fun k : Nat => ⟨[(11, vi .i64 k), (10, vi .i64 l.length), (9, .c (trs l)), (1, .c (.fn 175 [0, 8, 1]))], [(8, .box [int (nxW x l k)]), (1, .box [trs l]), (0, .box (rtC x))], 9⟩) (fun k => k ≤ l.length ∧ ∀ i, i < k → cwN x l i = 0) (fun k => l.length - k) 0 [] ⟨Nat.zero_le _, fun i hi => by omega⟩ ?_ ?_
    · (refine qis ?_ ?_ <;> (repeat' first | exact rfl | (refine qS ?_; constructor)))
    · intro k hk
      refine Fork.dec (fun hlt => ?_) (fun hlt => ?_)
      · have hlt : k < l.length := by omega
        have hnb := nxW_bd hx hk.2
        have hwb := wtB_of hx hk.2
        have hnx1 : nxW x l (k + 1) = (wtA l k).2.2 + 1 := by rw [nxW, if_neg (by omega), Nat.add_sub_cancel]
        have hret := fun {e} => @hret k hlt hk.2 e
        have hA : cwA x l k = fstE [unl (0 ≤ (wtA l k).1 ∧ (wtA l k).1 ≤ x.p - 1) 6, unl ((wtA l k).2.1 = nxW x l k) 13, unl ((wtA l k).2.1 ≤ (wtA l k).2.2 ∧ (wtA l k).2.2 ≤ x.hi) 2] := rfl
        have hN : cwN x l k = if cwA x l k = 0 then cwB x l k else cwA x l k := rfl
        generalize nxW x l k = N at *
        have hxp := hx.2.2.1
        have hxh := hx.2.1
        by_cases hA0 : cwA x l k = 0
        · rw [if_pos hA0] at hN
          have g := hA0
          rw [hA, fst3, unl0 (by decide), unl0 (by decide), unl0 (by decide)] at g
          have c2 := C173t (l := l) (w := wtA l k) (k := k) ⟨by omega, hl, by simp only [wtB]; omega, hwb⟩
          have hB : cwB x l k = fstE [unl ((wtA l k).2.2 + 1 - (wtA l k).2.1 ≤ x.w) 22, unb (!(rsN l (wtA l k) k).2 || decide (x.r ≤ (rsN l (wtA l k) k).1)) 24] := rfl
          generalize rsN l (wtA l k) k = R at *
          rw [hA] at hA0
          (repeat' first | (refine Owe.same ?_; first | refine Owe.o ?_ | refine Owe.mk ?_ ?_) | (refine Fork.same ?_; (first | refine fkD ?_ ?_ | refine fkN ?_ ?_ | refine fkM ?_ ?_) <;> intro h) | refine MvQ.stay ?_)
          refine Ops.cs rfl rfl (CallS.of fn175 rfl ?_)
          have g2 : (l.getD k (0, 0, 0)).2.1 = N := g.2.1
          have g3 : (l.getD k (0, 0, 0)).2.1 ≤ (l.getD k (0, 0, 0)).2.2 := g.2.2.1
          have g4 : (l.getD k (0, 0, 0)).2.2 ≤ x.hi := g.2.2.2
          (repeat' first | (refine Owe.same ?_; first | refine Owe.o ?_ | refine Owe.mk ?_ ?_) | (refine Fork.same ?_; (first | refine fkD ?_ ?_ | refine fkN ?_ ?_ | refine fkM ?_ ?_) <;> intro h) | ((first | refine OpsL.same ?_ | refine OpsDL.same ?_); first | refine pK C168 rfl rfl ?_ | refine pK C152 rfl rfl ?_ | refine pK C151 rfl rfl ?_ | refine pK c2 rfl rfl ?_) | refine MvQ.stay ?_)
          all_goals first
            | contradiction
            | exact absurd hA0 h
            | (exfalso; rename_i g5; exact g5 hA0)
            | (exfalso; rename_i g5 _; exact g5 hA0)
            | (exfalso; rename_i g5 _ _; exact g5 hA0)
            | skip
          · rename_i r1 _
            have r1 : R.2 = false := by simpa using r1
            have e1 : cwN x l k = fstE [unl ((wtA l k).2.2 + 1 - (wtA l k).2.1 ≤ x.w) 22, unb true 24] := by rw [hN, hB, r1]; rfl
            have hx := hret e1 h
            subst hx
            (refine rqK rfl ?_; (repeat' first | exact rfl | (refine qS ?_; constructor)))
          · rename_i r1
            have r1 : R.2 = false := by simpa using r1
            have e1 : cwN x l k = fstE [unl ((wtA l k).2.2 + 1 - (wtA l k).2.1 ≤ x.w) 22, unb true 24] := by rw [hN, hB, r1]; rfl
            refine again (k + 1) [] ⟨hlt, succ_all hk.2 (e1.trans h)⟩ (by omega) ?_
            (refine qis ?_ ?_ <;> (repeat' first | exact rfl | (refine qS ?_; constructor)))
          · rename_i r1 _
            have r1 : R.2 = true := by simpa using r1
            have e1 : cwN x l k = fstE [unl ((wtA l k).2.2 + 1 - (wtA l k).2.1 ≤ x.w) 22, unb (decide (x.r ≤ R.1)) 24] := by rw [hN, hB, r1]; rfl
            have hx := hret e1 h
            subst hx
            (refine rqK rfl ?_; (repeat' first | exact rfl | (refine qS ?_; constructor)))
          · rename_i r1
            have r1 : R.2 = true := by simpa using r1
            have e1 : cwN x l k = fstE [unl ((wtA l k).2.2 + 1 - (wtA l k).2.1 ≤ x.w) 22, unb (decide (x.r ≤ R.1)) 24] := by rw [hN, hB, r1]; rfl
            refine again (k + 1) [] ⟨hlt, succ_all hk.2 (e1.trans h)⟩ (by omega) ?_
            (refine qis ?_ ?_ <;> (repeat' first | exact rfl | (refine qS ?_; constructor)))
        · rw [if_neg hA0] at hN
          have hx := hret hN hA0
          rw [hA] at hA0
          (repeat' first | (refine Owe.same ?_; first | refine Owe.o ?_ | refine Owe.mk ?_ ?_) | (refine Fork.same ?_; (first | refine fkD ?_ ?_ | refine fkN ?_ ?_ | refine fkM ?_ ?_) <;> intro h) | refine MvQ.stay ?_)
          refine Ops.cs rfl rfl (CallS.of fn175 rfl ?_)
          (repeat' first | (refine Owe.same ?_; first | refine Owe.o ?_ | refine Owe.mk ?_ ?_) | (refine Fork.same ?_; (first | refine fkD ?_ ?_ | refine fkN ?_ ?_ | refine fkM ?_ ?_) <;> intro h) | ((first | refine OpsL.same ?_ | refine OpsDL.same ?_); first | refine pK C168 rfl rfl ?_ | refine pK C152 rfl rfl ?_ | refine pK C151 rfl rfl ?_) | refine MvQ.stay ?_)
          all_goals first
            | contradiction
            | exact absurd h hA0
            | (subst hx; (refine rqK rfl ?_; (repeat' first | exact rfl | (refine qS ?_; constructor))); first | done | exact hA | exact hA.symm)
      · have : k = l.length := by omega
        subst this
        rw [if_pos (eachN_ok.2 hk.2)] at hq
        have hnb := nxW_bd hx hk.2
        generalize nxW x l l.length = N at *
        have hxh := hx.2.1
        (repeat' first | (refine Owe.same ?_; first | refine Owe.o ?_ | refine Owe.mk ?_ ?_) | (refine Fork.same ?_; (first | refine fkD ?_ ?_ | refine fkN ?_ ?_ | refine fkM ?_ ?_) <;> intro h) | ((first | refine OpsL.same ?_ | refine OpsDL.same ?_); first | refine pK C152 rfl rfl ?_) | refine MvQ.stay ?_)
        all_goals first
          | contradiction
          | exact absurd rfl h
          | skip
        · subst hq
          (refine rqK rfl ?_; (repeat' first | exact rfl | (refine qS ?_; constructor)))
          exact unb_of (decide_eq_decide.2 ⟨fun hh => ⟨h, hh⟩, fun hh => hh.2⟩)
        · subst hq
          (refine rqK rfl ?_; (repeat' first | exact rfl | (refine qS ?_; constructor)))
          exact unb_of (decide_eq_false fun hh => h hh.1).symm
theorem cw_b {x : Rt} {l : List Wt} {i : Nat} (h : 0 ≤ (wtA l i).1 ∧ (wtA l i).1 ≤ x.p - 1) (h1 : (wtA l i).2.1 = nxW x l i) (h2 : (wtA l i).2.1 ≤ (wtA l i).2.2 ∧ (wtA l i).2.2 ≤ x.hi) : cwN x l i = cwB x l i := by
  have e : cwA x l i = 0 := by rw [cwA, unl, decide_eq_true h, unl, decide_eq_true h1, unl, decide_eq_true h2]; rfl
  rw [cwN, if_pos e]
abbrev wtF (x : Rt) (i : Nat) : Wt := ((i : Int).tmod x.p, x.lo + i * x.w, min x.hi (x.lo + i * x.w + x.w - 1))
abbrev wL (x : Rt) (n : Nat) : List Wt := accL (wtF x) n
theorem wL_get {x : Rt} {n i : Nat} (h : i < n) : wtA (wL x n) i = wtF x i := by
  rw [wtA, List.getD_eq_getElem?_getD]
  simp [accL, h]
def nW (x : Rt) : Nat := ((x.hi - x.lo) / x.w + 1).toNat
theorem nW_iff {x : Rt} (hx : rtP x) (ho : x.lo ≤ x.hi) (k : Nat) : x.lo + k * x.w ≤ x.hi ↔ k < nW x := by
  have hw := hx.2.2.2.1
  have h1 : (k : Int) * x.w ≤ x.hi - x.lo ↔ (k : Int) ≤ (x.hi - x.lo) / x.w := (Int.le_ediv_iff_mul_le (by omega)).symm
  have h2 : 0 ≤ (x.hi - x.lo) / x.w := Int.ediv_nonneg (by omega) (by omega)
  rw [nW]
  omega
theorem nW_40 {x : Rt} (hx : rtP x) (ho : x.lo ≤ x.hi) (h : x.hi - x.lo < 40 * x.w) : nW x ≤ 40 := by
  have h1 := nW_iff hx ho 40
  omega
theorem C84 {l : List Wt} : l.length ≤ 1000000 → PFD Tryz.prog 84 [.c (trs l)] (.c (trs l)) := fun h => by
  refine pi1 fn84 ?_
  (repeat' first | (refine Owe.same ?_; first | refine Owe.o ?_ | refine Owe.mk ?_ ?_) | (refine Fork.same ?_; (first | refine fkD ?_ ?_ | refine fkN ?_ ?_ | refine fkM ?_ ?_) <;> intro h) | refine MvQ.stay ?_)
  (refine rqK rfl ?_; (repeat' first | exact rfl | (refine qS ?_; constructor)))
abbrev cfX (x : Rt) (k : Nat) : Prop := (rsN (wL x k) (wtF x k) k).2 = true ∧ (rsN (wL x k) (wtF x k) k).1 < x.r
abbrev noX (x : Rt) : Prop := ∀ k, k < nW x → ¬ cfX x k
def wfE (x : Rt) : List Wt × Int := if rtE x = 0 then (if x.hi - x.lo + 1 > 40 * x.w then ([], 8) else if noX x then (wL x (nW x), 0) else ([], 24)) else ([], rtE x)
theorem C82 {x : Rt} : PFD Tryz.prog 82 [rtv x] (.tup [.c (trs (wfE x).1), vi .i64 (wfE x).2]) := by
  obtain ⟨q, hq⟩ : ∃ q, q = wfE x := ⟨_, rfl⟩
  rw [← hq]
  rw [wfE] at hq
  have c1 := C172 (x := x)
  by_cases h0 : rtE x = 0
  rotate_left
  · rw [if_neg h0] at hq
    generalize rtE x = e at *
    subst hq
    refine pi2 fn82 ?_
    (repeat' first | (refine Owe.same ?_; first | refine Owe.o ?_ | refine Owe.mk ?_ ?_) | (refine Fork.same ?_; (first | refine fkY ?_ | refine fkF ?_ | ((first | refine fkD ?_ ?_ | refine fkN ?_ ?_ | refine fkM ?_ ?_) <;> intro h))) | ((first | refine OpsL.same ?_ | refine OpsDL.same ?_); first | refine oK c1 rfl rfl rfl ?_) | refine MvQ.stay ?_)
    (refine rqK rfl ?_; (repeat' first | exact rfl | (refine qS ?_; constructor)))
  rw [if_pos h0] at hq
  rw [h0] at c1
  obtain ⟨hx, hxo⟩ := rtE_ok h0
  have hl := hx.1
  have hh := hx.2.1
  have hp := hx.2.2.1
  have hw := hx.2.2.2.1
  have hr := hx.2.2.2.2
  by_cases h40 : x.hi - x.lo + 1 > 40 * x.w
  · rw [if_pos h40] at hq
    subst hq
    refine pi2 fn82 ?_
    (repeat' first | (refine Owe.same ?_; first | refine Owe.o ?_ | refine Owe.mk ?_ ?_) | (refine Fork.same ?_; (first | refine fkY ?_ | refine fkF ?_ | ((first | refine fkD ?_ ?_ | refine fkN ?_ ?_ | refine fkM ?_ ?_) <;> intro h))) | ((first | refine OpsL.same ?_ | refine OpsDL.same ?_); first | refine oK c1 rfl rfl rfl ?_) | refine MvQ.stay ?_)
    (refine rqK rfl ?_; (repeat' first | exact rfl | (refine qS ?_; constructor)))
  rw [if_neg h40] at hq
  have hn := nW_40 hx hxo (by omega)
  refine pi2 fn82 ?_
  (repeat' first | (refine Owe.same ?_; first | refine Owe.o ?_ | refine Owe.mk ?_ ?_) | (refine Fork.same ?_; (first | refine fkY ?_ | refine fkF ?_ | ((first | refine fkD ?_ ?_ | refine fkN ?_ ?_ | refine fkM ?_ ?_) <;> intro h))) | ((first | refine OpsL.same ?_ | refine OpsDL.same ?_); first | refine oK c1 rfl rfl rfl ?_) | refine MvQ.stay ?_)
  (repeat' first | (refine Owe.same ?_; first | refine Owe.o ?_ | refine Owe.mk ?_ ?_) | (refine Fork.same ?_; (first | refine fkD ?_ ?_ | refine fkN ?_ ?_ | refine fkM ?_ ?_) <;> intro h) | refine MvQ.stay ?_)
  refine Sat.nilS 5 145 3 (fun i => r3 (([] : List Wt).getD i (0, 0, 0))) rfl ?_
  refine Sat.lp (fun k : Nat => ⟨[(6, vi .i64 (x.lo + k * x.w)), (5, .c (.ms 0 (wL x k).length)), (1, .c (.rp (rtD x)))], [(0, rowv 145 3 r3 (0, 0, 0) (wL x k))], 1⟩) (fun k => k ≤ nW x ∧ ∀ j, j < k → ¬ cfX x j) (fun k => nW x - k) 0 [0] ⟨Nat.zero_le _, fun i hi => by omega⟩ ?_ ?_
  · (refine qis ?_ ?_ <;> (repeat' first | exact rfl | (refine qS ?_; constructor)))
    simp
  · intro k ⟨hk, hno⟩
    have hi := nW_iff hx hxo k
    have hkl : (wL x k).length = k := accL_len (wtF x) k
    refine Fork.dec (fun hlt => ?_) (fun hlt => ?_)
    · have hlt : k < nW x := hi.1 hlt
      have hs := accL_succ (wtF x) k
      have hmul : 0 ≤ (k : Int) * x.w := Int.mul_nonneg (by omega) (by omega)
      have hle := hi.2 hlt
      (repeat' first | (refine Owe.same ?_; first | refine Owe.o ?_ | refine Owe.mk ?_ ?_) | (refine Fork.same ?_; (first | refine fkD ?_ ?_ | refine fkN ?_ ?_ | refine fkM ?_ ?_) <;> intro h) | refine MvQ.stay ?_)
      refine Ops.cs rfl rfl (CallS.of fn173 rfl ?_)
      (repeat' first | (refine Owe.same ?_; first | refine Owe.o ?_ | refine Owe.mk ?_ ?_) | (refine Fork.same ?_; (first | refine fkD ?_ ?_ | refine fkN ?_ ?_ | refine fkM ?_ ?_) <;> intro h) | refine MvQ.stay ?_)
      refine Ops.cs rfl rfl (CallS.of fn235m rfl ?_)
      (repeat' first | (refine Owe.same ?_; first | refine Owe.o ?_ | refine Owe.mk ?_ ?_) | (refine Fork.same ?_; (first | refine fkD ?_ ?_ | refine fkN ?_ ?_ | refine fkM ?_ ?_) <;> intro h) | refine MvQ.stay ?_)
      refine Sat.keep [3, 4, 5, 9] ?_
      refine Sat.rf rfl rfl (CallS.of fn268 rfl ?_)
      (repeat' first | (refine Owe.same ?_; first | refine Owe.o ?_ | refine Owe.mk ?_ ?_) | (refine Fork.same ?_; (first | refine fkD ?_ ?_ | refine fkN ?_ ?_ | refine fkM ?_ ?_) <;> intro h) | refine MvQ.stay ?_)
      have hlin : x.lo + ((k + 1 : Nat) : Int) * x.w = x.lo + k * x.w + x.w := by
        rw [Int.natCast_succ, Int.add_mul]; omega
      obtain ⟨R, hR⟩ : ∃ R, R = rsN (wL x k) (wtF x k) k := ⟨_, rfl⟩
      have hbr : ∀ m, m < k → -1000000 ≤ ((wL x k).getD m (0, 0, 0)).2.2 ∧ ((wL x k).getD m (0, 0, 0)).2.2 ≤ 1000000 := fun m hm => by
        have e := wL_get (x := x) hm
        rw [wtA] at e
        rw [e]
        have hmul : 0 ≤ (m : Int) * x.w := Int.mul_nonneg (by omega) (by omega)
        show -1000000 ≤ min x.hi (x.lo + m * x.w + x.w - 1) ∧ min x.hi (x.lo + m * x.w + x.w - 1) ≤ 1000000
        omega
      have hend : R.2 = false → noX x → wfE x = (wL x (nW x), 0) := fun _ h => by rw [wfE, if_pos h0, if_neg h40, if_pos h]
      have htm : (((wL x k).length : Nat) : Int).tmod x.p = (k : Int).tmod x.p := by rw [hkl]
      refine Sat.lp (fun n : Nat => ⟨[(3, vi .i64 ((n : Int) - 1)), (0, .c (.yd 23)), (1, .c (.bp 22 0))], [(23, .lp [(3, .c (.rp [dI ((((wL x k).length : Nat) : Int).tmod x.p), dI (x.lo + k * x.w), dI (min x.hi (x.lo + k * x.w + x.w - 1))])), (4, .c (.bp 20 0)), (5, .c (.bp 21 0)), (9, .c (.fn 268 [22]))] .ready none (RR Tryz.prog 25 [10, 11] ra173 rb173)), (22, .box [.ms 0 (wL x k).length]), (21, .box [.d (.v (.bool false))]), (20, .box [int 0]), (18, .box [int ((((wL x k).length : Nat) : Int).tmod x.p), int (x.lo + k * x.w), int (min x.hi (x.lo + k * x.w + x.w - 1))]), (0, rowv 145 3 r3 (0, 0, 0) (wL x k))], 24⟩)
        (fun n => n ≤ k ∧ R = rsN (wL x k) (wtF x k) n) (fun n => n) k [] ⟨Nat.le_refl _, hR⟩ ?_ ?_
      · (refine qis ?_ ?_ <;> (repeat' first | exact rfl | (refine qS ?_; constructor)))
        rw [hkl]
      · intro n ⟨hn1, hqn⟩
        match n, hn1, hqn with
        | 0, _, hqn =>
          rw [rsN] at hqn
          have hcf : ¬ cfX x k := fun hh => by
            have := hh.1
            rw [← hR, hqn] at this
            cases this
          (repeat' first | (refine Owe.same ?_; first | refine Owe.o ?_ | refine Owe.mk ?_ ?_) | (refine Fork.same ?_; (first | refine fkY ?_ | refine fkF ?_ | ((first | refine fkD ?_ ?_ | refine fkN ?_ ?_ | refine fkM ?_ ?_) <;> intro h))) | ((first | refine OpsL.same ?_ | refine OpsDL.same ?_); first | refine oK C152 rfl rfl rfl ?_) | refine MvQ.stay ?_)
          (repeat' first | (refine Owe.same ?_; first | refine Owe.o ?_ | refine Owe.mk ?_ ?_) | (refine Fork.same ?_; (first | refine fkD ?_ ?_ | refine fkN ?_ ?_ | refine fkM ?_ ?_) <;> intro h) | refine MvQ.stay ?_)
          refine again (k + 1) [24] ⟨hlt, succ_all hno hcf⟩ (by omega) ?_
          rw [show wL x (k + 1) = wL x k ++ [wtF x k] from hs, hlin]
          (refine qis ?_ ?_ <;> (repeat' first | exact rfl | (refine qS ?_; constructor)))
          · simp
          · rw [hkl]
        | m + 1, hn1, hqn =>
          have hbm := hbr m hn1
          rw [rsN] at hqn
          have em : (((m + 1 : Nat) : Int) - 1).toNat = m := by omega
          rw [← em] at hbm
          (repeat' first | (refine Owe.same ?_; first | refine Owe.o ?_ | refine Owe.mk ?_ ?_) | (refine Fork.same ?_; (first | refine fkY ?_ | refine fkF ?_ | ((first | refine fkD ?_ ?_ | refine fkN ?_ ?_ | refine fkM ?_ ?_) <;> intro h))) | ((first | refine OpsL.same ?_ | refine OpsDL.same ?_); first | refine oK C152 rfl rfl rfl ?_) | refine MvQ.stay ?_)
          (repeat' first | (refine Owe.same ?_; first | refine Owe.o ?_ | refine Owe.mk ?_ ?_) | (refine Fork.same ?_; (first | refine fkD ?_ ?_ | refine fkN ?_ ?_ | refine fkM ?_ ?_) <;> intro h) | refine MvQ.stay ?_)
          refine Ops.yd rfl rfl rfl rfl rfl ?_
          (repeat' first | (refine Owe.same ?_; first | refine Owe.o ?_ | refine Owe.mk ?_ ?_) | (refine Fork.same ?_; (first | refine fkD ?_ ?_ | refine fkN ?_ ?_ | refine fkM ?_ ?_) <;> intro h) | refine MvQ.stay ?_)
          refine And.intro rfl (Exists.intro _ (And.intro rfl ?_))
          (repeat' first | (refine Owe.same ?_; first | refine Owe.o ?_ | refine Owe.mk ?_ ?_) | (refine Fork.same ?_; (first | refine fkD ?_ ?_ | refine fkN ?_ ?_ | refine fkM ?_ ?_) <;> intro h) | refine MvQ.stay ?_)
          · rw [em] at h
            have h : (wtA (wL x k) m).1 = (wtF x k).1 := h.trans htm
            rw [if_pos h] at hqn
            refine Exists.intro _ (Exists.intro _ (Exists.intro _ (And.intro rfl ?_)))
            (repeat' first | (refine Owe.same ?_; first | refine Owe.o ?_ | refine Owe.mk ?_ ?_) | (refine Fork.same ?_; (first | refine fkD ?_ ?_ | refine fkN ?_ ?_ | refine fkM ?_ ?_) <;> intro h) | refine MvQ.stay ?_)
            · rw [em] at h
              have hcf : cfX x k := ⟨by rw [← hR, hqn], by rw [← hR, hqn]; exact h⟩
              rw [if_neg (fun hh => hh k hlt hcf)] at hq
              subst hq
              (refine rqK rfl ?_; (repeat' first | exact rfl | (refine qS ?_; constructor)))
            · rw [em] at h
              have hcf : ¬ cfX x k := fun hh => by
                have := hh.2
                rw [← hR, hqn] at this
                exact h this
              refine again (k + 1) [25] ⟨hlt, succ_all hno hcf⟩ (by omega) ?_
              rw [show wL x (k + 1) = wL x k ++ [wtF x k] from hs, hlin]
              (refine qis ?_ ?_ <;> (repeat' first | exact rfl | (refine qS ?_; constructor)))
              · simp
              · rw [hkl]
          · rw [em] at h
            have h : ¬ (wtA (wL x k) m).1 = (wtF x k).1 := fun hh => h (hh.trans htm.symm)
            rw [if_neg h] at hqn
            refine Exists.intro _ (Exists.intro _ (Exists.intro _ (And.intro rfl ?_)))
            (repeat' first | (refine Owe.same ?_; first | refine Owe.o ?_ | refine Owe.mk ?_ ?_) | (refine Fork.same ?_; (first | refine fkD ?_ ?_ | refine fkN ?_ ?_ | refine fkM ?_ ?_) <;> intro h) | refine MvQ.stay ?_)
            refine again m [] ⟨by omega, hqn⟩ (by show m < m + 1; omega) ?_
            (refine qis ?_ ?_ <;> (repeat' first | exact rfl | (refine qS ?_; constructor)))
            all_goals (try omega)
    · have : k = nW x := by omega
      subst this
      rw [if_pos hno] at hq
      subst hq
      (repeat' first | (refine Owe.same ?_; first | refine Owe.o ?_ | refine Owe.mk ?_ ?_) | (refine Fork.same ?_; (first | refine fkD ?_ ?_ | refine fkN ?_ ?_ | refine fkM ?_ ?_) <;> intro h) | refine MvQ.stay ?_)
      refine rqF 0 _ rfl rfl rfl ?_; (repeat' first | exact rfl | (refine qS ?_; constructor))
theorem rsN_congr {l m : List Wt} {w : Wt} : ∀ {n : Nat}, (∀ i, i < n → wtA l i = wtA m i) → rsN l w n = rsN m w n
  | 0, _ => rfl
  | n + 1, h => by
    have e : l.getD n (0, 0, 0) = m.getD n (0, 0, 0) := h n (Nat.lt_succ_self _)
    rw [rsN, rsN, e, rsN_congr (n := n) fun i hi => h i (by omega)]
theorem wt_succ {x : Rt} (hx : rtP x) (ho : x.lo ≤ x.hi) (k : Nat) : ((k + 1 : Nat) : Int) * x.w = k * x.w + x.w := by rw [Int.natCast_succ, Int.add_mul]; omega
theorem wt_hi {x : Rt} (hx : rtP x) (ho : x.lo ≤ x.hi) {k : Nat} (h : k + 1 < nW x) : (wtF x k).2.2 = x.lo + k * x.w + x.w - 1 := by
  have h1 := (nW_iff hx ho (k + 1)).2 h
  have h2 := wt_succ hx ho k
  show min x.hi (x.lo + k * x.w + x.w - 1) = _
  omega
theorem wt_last {x : Rt} (hx : rtP x) (ho : x.lo ≤ x.hi) {k : Nat} (h : k + 1 = nW x) : (wtF x k).2.2 = x.hi := by
  have h1 := nW_iff hx ho (k + 1)
  have h2 := wt_succ hx ho k
  show min x.hi (x.lo + k * x.w + x.w - 1) = _
  omega
theorem wt_p {x : Rt} (hx : rtP x) (ho : x.lo ≤ x.hi) (k : Nat) : 0 ≤ (wtF x k).1 ∧ (wtF x k).1 ≤ x.p - 1 := by
  have hp := hx.2.2.1
  show 0 ≤ (k : Int).tmod x.p ∧ (k : Int).tmod x.p ≤ x.p - 1
  rw [Int.tmod_eq_emod_of_nonneg (by omega)]
  have h1 := Int.emod_nonneg (k : Int) (show x.p ≠ 0 by omega)
  have h2 := Int.emod_lt_of_pos (k : Int) (show 0 < x.p by omega)
  omega
theorem wt_nx {x : Rt} (hx : rtP x) (ho : x.lo ≤ x.hi) {k : Nat} (h : k < nW x) : nxW x (wL x (nW x)) k = (wtF x k).2.1 := by
  rw [nxW]
  split
  · rename_i h1; subst h1
    show x.lo = x.lo + ((0 : Nat) : Int) * x.w
    simp
  · rename_i h1
    rw [wL_get (by omega), wt_hi hx ho (by omega)]
    have h2 := wt_succ hx ho (k - 1)
    rw [show k - 1 + 1 = k by omega] at h2
    show _ = x.lo + k * x.w
    omega
theorem nW_pos {x : Rt} (hx : rtP x) (ho : x.lo ≤ x.hi) : 0 < nW x := by
  have := (nW_iff hx ho 0).1 (by simpa using ho)
  omega
theorem wt_nxN {x : Rt} (hx : rtP x) (ho : x.lo ≤ x.hi) : nxW x (wL x (nW x)) (nW x) = x.hi + 1 := by
  have h0 := nW_pos hx ho
  rw [nxW, if_neg (by omega), wL_get (by omega), wt_last hx ho (by omega)]
theorem wt_cw {x : Rt} (hx : rtP x) (ho : x.lo ≤ x.hi) {k : Nat} (h : k < nW x) : cwN x (wL x (nW x)) k = unb (!(rsN (wL x k) (wtF x k) k).2 || decide (x.r ≤ (rsN (wL x k) (wtF x k) k).1)) 24 := by
  have hw := hx.2.2.2.1
  have h1 := (nW_iff hx ho k).2 h
  have e := wL_get (x := x) h
  have er : rsN (wL x (nW x)) (wtF x k) k = rsN (wL x k) (wtF x k) k := rsN_congr fun i hi => by rw [wL_get (by omega), wL_get hi]
  rw [cw_b (by rw [e]; exact wt_p hx ho k) (by rw [e, wt_nx hx ho h]) (by
    rw [e]
    show x.lo + k * x.w ≤ min x.hi (x.lo + k * x.w + x.w - 1) ∧ min x.hi (x.lo + k * x.w + x.w - 1) ≤ x.hi
    omega), cwB, e, er, unl, decide_eq_true]
  · rw [fstE, if_pos (by rfl), fstE, fstE]
    split
    · rename_i h; exact h.symm
    · rfl
  · show min x.hi (x.lo + k * x.w + x.w - 1) + 1 - (x.lo + k * x.w) ≤ x.w
    omega
theorem wt_cf {x : Rt} (hx : rtP x) (ho : x.lo ≤ x.hi) {k : Nat} (h : k < nW x) : cwN x (wL x (nW x)) k = if cfX x k then 24 else 0 := by
  rw [wt_cw hx ho h]
  by_cases hr : (rsN (wL x k) (wtF x k) k).2 = true
  rotate_left
  · have hr : (rsN (wL x k) (wtF x k) k).2 = false := by simpa using hr
    rw [if_neg (fun hh => by have := hh.1; rw [hr] at this; cases this), hr]; rfl
  · by_cases hq : x.r ≤ (rsN (wL x k) (wtF x k) k).1
    · rw [if_neg (fun hh => by have := hh.2; omega), hr, decide_eq_true hq]; rfl
    · rw [if_pos ⟨hr, by omega⟩, hr, decide_eq_false hq]; rfl
theorem wt_cwE {x : Rt} (h0 : rtE x = 0) (h40 : x.hi - x.lo < 40 * x.w) : (cwE x (wL x (nW x))).2 = if noX x then 0 else 24 := by
  obtain ⟨hx, ho⟩ := rtE_ok h0
  have hn := nW_40 hx ho h40
  have hl : (wL x (nW x)).length = nW x := accL_len _ _
  have hp := nW_pos hx ho
  rw [cwE, if_pos h0, if_neg (by omega), hl]
  by_cases hno : noX x
  · have he : (eachN (cwN x (wL x (nW x))) 0 (nW x)).2 = 0 := eachN_ok.2 fun i hi => by rw [wt_cf hx ho hi, if_neg (hno i hi)]
    rw [if_pos he, if_pos hno, wt_nxN hx ho]
    show unl _ 21 = 0
    rw [unl, decide_eq_true ⟨by omega, rfl⟩]; rfl
  · rw [if_neg hno]
    have hex : ∃ k, k < nW x ∧ (∀ i, i < k → ¬ cfX x i) ∧ cfX x k := by
      have : ∀ n, (¬ ∀ k, k < n → ¬ cfX x k) → ∃ k, k < n ∧ (∀ i, i < k → ¬ cfX x i) ∧ cfX x k := fun n => by
        induction n with
        | zero => intro h; exact absurd (fun k hk => by omega) h
        | succ n ih =>
          intro h
          by_cases h1 : ∀ k, k < n → ¬ cfX x k
          · by_cases h2 : cfX x n
            · exact ⟨n, Nat.lt_succ_self _, h1, h2⟩
            · exact absurd (succ_all h1 h2) h
          · obtain ⟨k, h2, h3⟩ := ih h1
            exact ⟨k, by omega, h3⟩
      exact this _ hno
    obtain ⟨k, h1, h2, h3⟩ := hex
    have ek : cwN x (wL x (nW x)) k = 24 := by rw [wt_cf hx ho h1, if_pos h3]
    have he := eachN_e (f := cwN x (wL x (nW x))) h1 (fun i hi => by rw [wt_cf hx ho (show i < nW x by omega), if_neg (h2 i hi)]) (by rw [ek]; decide)
    rw [he, ek]; rfl
end Go.Pw
set_option linter.unusedSimpArgs false
set_option linter.unusedVariables false
set_option maxHeartbeats 2000000
namespace Go.Pw
set_option maxRecDepth 2000
open Go Go.Proofs A1 A2 A3 A4
theorem accL_gd {α : Type} (f : Nat → α) (d : α) {n i : Nat} (h : i < n) : (accL f n).getD i d = f i := by
  simp [accL, List.getD_eq_getElem?_getD, h]
theorem lrD_ok {s : Si} {t : St8} (h : reB s t = true) : ∀ n : Nat, 0 < n → (lrD s t n).2 = 0 ∧ t.t ≤ (lrD s t n).1 ∧ (lrD s t n).1 < t.t + n
  | 0, h0 => absurd h0 (Nat.lt_irrefl _)
  | n + 1, _ => by
    rw [lrD]
    split
    · exact ⟨rfl, by show t.t ≤ t.t + n; omega, by show t.t + (n : Int) < t.t + ((n + 1 : Nat) : Int); omega⟩
    · rename_i hr
      have hn : 0 < n := Nat.pos_of_ne_zero fun e => by
        subst e
        apply hr
        have e : wtS s t (t.t + ((0 : Nat) : Int)) = t := by
          show St8.mk t.p (t.t + 0) (t.w - (t.t + 0 - t.t) * s.idle) t.o t.d = t
          rw [Int.add_zero, Int.sub_self, Int.zero_mul, Int.sub_zero]
        rw [e]; exact h
      have := lrD_ok h n hn
      exact ⟨this.1, this.2.1, by have := this.2.2; omega⟩
theorem lrE_ok {s : Si} {t : St8} (h0 : onE s t = 0) (h : reB s t = true) : (lrE s t).2 = 0 ∧ t.t ≤ (lrE s t).1 ∧ (lrE s t).1 ≤ s.fin := by
  have hO := OnOk.of h0
  have hb := hmT_bd hO.b
  have h2 := h
  rw [reB, decide_eq_true_eq] at h2
  rw [lrE, if_pos h0]
  have := lrD_ok h (s.fin - t.t + 1).toNat (by omega)
  exact ⟨this.1, this.2.1, by omega⟩
structure RdF (s : Si) (t : St8) (P : List Int) (i : Nat) : Prop where
  ok : OnOk s (stK s t P i)
  on : onE s (stK s t P i) = 0
  re : reB s (stK s t P i) = true
  lo : t.t ≤ (stK s t P i).t
  hi : (stK s t P i).t ≤ (stK s t P P.length).t
  cp : (cpE s (stK s t P i) (P.drop i)).2 = 0
theorem rd_facts {s : Si} {t : St8} {P : List Int} (h0 : onE s t = 0) (hs : (siE s).2 = 0) (hr : reB s t = true) (hp : (prE s t P).2 = 0) : ∀ i, i ≤ P.length → RdF s t P i := by
  have hO := OnOk.of h0
  have hall : ∀ j, j < P.length → sfK s t P j = 0 := by
    rw [prE, eachN_ok] at hp; exact hp
  have hok : ∀ i, i ≤ P.length → OnOk s (stK s t P i) := fun i hi => stK_ok hO (fun j hj => hall j (by omega))
  have hst : ∀ i, i < P.length → _ := fun i hi => nx_facts (hok i (by omega)) (hall i hi)
  have hre : ∀ i, i ≤ P.length → reB s (stK s t P i) = true := fun i => by
    induction i with
    | zero => intro _; exact hr
    | succ i _ => intro hi; exact (hst i (by omega)).1.2
  have hlo : ∀ i, i ≤ P.length → t.t ≤ (stK s t P i).t := fun i => by
    induction i with
    | zero => intro _; exact Int.le_refl _
    | succ i ih => intro hi; exact Int.le_trans (ih (by omega)) (hst i (by omega)).2.1
  have hhi : ∀ k i, i + k = P.length → (stK s t P i).t ≤ (stK s t P P.length).t := fun k => by
    induction k with
    | zero => intro i hi; rw [show i = P.length by omega]; exact Int.le_refl _
    | succ k ih => intro i hi; exact Int.le_trans (hst i (by omega)).2.1 (ih (i + 1) (by omega))
  intro i hi
  exact ⟨hok i hi, (hok i hi).on hs, hre i hi, hlo i hi, hhi (P.length - i) i (by omega), cpE_0 ((hok i hi).on hs) (prE_drop hall)⟩
theorem stR_of {s : Si} {y : St8} (h : OnOk s y) : StR y ∧ y.d.length ≤ 6 ∧ St64 y := by
  have h1 := h.pl
  have h2 := h.ok.h
  have h3 := h.tm
  have h4 := h.en
  have h5 := h.oil
  have h6 := h.ok.n
  have h7 := h.dl
  have h8 := asc_len h.d
  have hd : ∀ n ∈ y.d, 0 ≤ n ∧ n ≤ 6 := fun n hn => by have := h8 n hn; omega
  refine ⟨⟨by omega, by omega, by omega, by omega, fun n hn => by have := hd n hn; omega⟩, by omega, ⟨by omega, ⟨by omega, by omega⟩, ⟨by omega, by omega⟩, ⟨by omega, by omega⟩, ⟨by omega, by omega⟩, fun n hn => by have := hd n hn; exact ⟨by omega, by omega⟩⟩⟩
theorem wt_one {x : Rt} (hx : rtP x) (ho : x.lo ≤ x.hi) {a : Int} (ha : x.lo ≤ a ∧ a ≤ x.hi) : ∃ q, q < nW x ∧ ∀ j, j < nW x → (((wtF x j).2.1 ≤ a ∧ a ≤ (wtF x j).2.2) ↔ j = q) := by
  have hw : 0 < x.w := by have := hx.2.2.2.1; omega
  have hd : 0 ≤ a - x.lo := by omega
  have q1 := Int.ediv_mul_le (a - x.lo) (Int.ne_of_gt hw)
  have q2 := Int.lt_ediv_add_one_mul_self (a - x.lo) hw
  have q0 := Int.ediv_nonneg hd (Int.le_of_lt hw)
  obtain ⟨q, hq⟩ : ∃ q : Nat, (q : Int) = (a - x.lo) / x.w := ⟨((a - x.lo) / x.w).toNat, Int.toNat_of_nonneg q0⟩
  rw [← hq] at q1 q2
  have q3 : ((q : Int) + 1) * x.w = q * x.w + x.w := by rw [Int.add_mul, Int.one_mul]
  refine ⟨q, (nW_iff hx ho q).1 (by omega), fun j hj => ?_⟩
  have j3 : ((j : Int) + 1) * x.w = j * x.w + x.w := by rw [Int.add_mul, Int.one_mul]
  show (x.lo + j * x.w ≤ a ∧ a ≤ min x.hi (x.lo + j * x.w + x.w - 1)) ↔ j = q
  constructor
  · rintro ⟨h1, h2⟩
    rcases Nat.lt_trichotomy j q with h | h | h
    · have := Int.mul_le_mul_of_nonneg_right (show (j : Int) + 1 ≤ q by omega) (Int.le_of_lt hw)
      omega
    · exact h
    · have := Int.mul_le_mul_of_nonneg_right (show (q : Int) + 1 ≤ j by omega) (Int.le_of_lt hw)
      omega
  · rintro rfl
    exact ⟨by omega, by omega⟩
end Go.Pw
set_option linter.unusedSimpArgs false
set_option linter.unusedVariables false
set_option maxHeartbeats 4000000
namespace Go.Pw
open Go.RowKit Go.Lib
set_option maxRecDepth 2000
open Go Go.Proofs A1 A2 A3 A4
theorem same_rf (a : St8) : sameB a a = true := decide_eq_true ⟨rfl, rfl, rfl, rfl, rfl⟩
theorem st_len {q : St8} (h : St64 q) (hd : q.d.length ≤ 8) : (stS q).length ≤ 1000 := by
  have z1 := wd_len (i64_4 h.p h.t h.w h.o)
  have z2 := wd_len h.d
  rw [stS, List.length_append, List.length_cons]
  have e : [q.p, q.t, q.w, q.o].length = 4 := rfl
  omega
end Go.Pw
set_option linter.unusedSimpArgs false
set_option linter.unusedVariables false
set_option maxHeartbeats 8000000
namespace Go.Pw
open Go.RowKit Go.Lib
set_option maxRecDepth 2000
open Go Go.Proofs A1 A2 A3 A4
theorem C7 {s : Si} {t : St8} {x : Rt} : PFD Tryz.prog 7 [siv s, stv t, rtv x] (vbl true) := by
  have f1 := C59 (s := s)
  by_cases hf : fewP s
  rotate_left
  · rw [fewB, decide_eq_false hf] at f1
    refine pi1 fn7 ?_
    (repeat' first | (refine Owe.same ?_; first | refine Owe.o ?_ | refine Owe.mk ?_ ?_) | (refine Fork.same ?_; (first | refine fkY ?_ | refine fkF ?_ | ((first | refine fkD ?_ ?_ | refine fkN ?_ ?_ | refine fkM ?_ ?_) <;> intro h))) | ((first | refine OpsL.same ?_ | refine OpsDL.same ?_); first | refine oK C58 rfl rfl rfl ?_ | refine oK f1 rfl rfl rfl ?_) | refine MvQ.stay ?_)
    (refine rqK rfl ?_; (repeat' first | exact rfl | (refine qS ?_; constructor)))
  rw [fewB, decide_eq_true hf] at f1
  have hs := (Few.of hf).sm
  by_cases hd : (t.d.length : Int) ≤ 6
  rotate_left
  · refine pi1 fn7 ?_
    (repeat' first | (refine Owe.same ?_; first | refine Owe.o ?_ | refine Owe.mk ?_ ?_) | (refine Fork.same ?_; (first | refine fkY ?_ | refine fkF ?_ | ((first | refine fkD ?_ ?_ | refine fkN ?_ ?_ | refine fkM ?_ ?_) <;> intro h))) | ((first | refine OpsL.same ?_ | refine OpsDL.same ?_); first | refine oK C58 rfl rfl rfl ?_ | refine oK f1 rfl rfl rfl ?_) | refine MvQ.stay ?_)
    (refine rqK rfl ?_; (repeat' first | exact rfl | (refine qS ?_; constructor)))
  have c60 := C60 hs
  have c61 := C61 (s := s) (t := t) ⟨hs, by omega⟩
  by_cases h0 : (siE s).2 = 0
  rotate_left
  · generalize (siE s).2 = e at *
    refine pi1 fn7 ?_
    (repeat' first | (refine Owe.same ?_; first | refine Owe.o ?_ | refine Owe.mk ?_ ?_) | (refine Fork.same ?_; (first | refine fkY ?_ | refine fkF ?_ | ((first | refine fkD ?_ ?_ | refine fkN ?_ ?_ | refine fkM ?_ ?_) <;> intro h))) | ((first | refine OpsL.same ?_ | refine OpsDL.same ?_); first | refine oK C58 rfl rfl rfl ?_ | refine oK f1 rfl rfl rfl ?_ | refine oK c60 rfl rfl rfl ?_) | refine MvQ.stay ?_)
    (refine rqK rfl ?_; (repeat' first | exact rfl | (refine qS ?_; constructor)))
  rw [h0] at c60
  by_cases h1 : (rsE s t).2 = 0
  rotate_left
  · generalize (rsE s t).2 = e at *
    refine pi1 fn7 ?_
    (repeat' first | (refine Owe.same ?_; first | refine Owe.o ?_ | refine Owe.mk ?_ ?_) | (refine Fork.same ?_; (first | refine fkY ?_ | refine fkF ?_ | ((first | refine fkD ?_ ?_ | refine fkN ?_ ?_ | refine fkM ?_ ?_) <;> intro h))) | ((first | refine OpsL.same ?_ | refine OpsDL.same ?_); first | refine oK C58 rfl rfl rfl ?_ | refine oK f1 rfl rfl rfl ?_ | refine oK c60 rfl rfl rfl ?_ | refine oK c61 rfl rfl rfl ?_) | refine MvQ.stay ?_)
    (refine rqK rfl ?_; (repeat' first | exact rfl | (refine qS ?_; constructor)))
  have hon : onE s t = 0 := by rw [onE_eq h0]; exact h1
  rw [h1] at c61
  have hO := OnOk.of hon
  have c62 := C62 hO.b
  by_cases hr : reB s t = true
  rotate_left
  · have hr : reB s t = false := by simpa using hr
    rw [hr] at c62
    refine pi1 fn7 ?_
    (repeat' first | (refine Owe.same ?_; first | refine Owe.o ?_ | refine Owe.mk ?_ ?_) | (refine Fork.same ?_; (first | refine fkY ?_ | refine fkF ?_ | ((first | refine fkD ?_ ?_ | refine fkN ?_ ?_ | refine fkM ?_ ?_) <;> intro h))) | ((first | refine OpsL.same ?_ | refine OpsDL.same ?_); first | refine oK C58 rfl rfl rfl ?_ | refine oK f1 rfl rfl rfl ?_ | refine oK c60 rfl rfl rfl ?_ | refine oK c61 rfl rfl rfl ?_ | refine oK c62 rfl rfl rfl ?_) | refine MvQ.stay ?_)
    (refine rqK rfl ?_; (repeat' first | exact rfl | (refine qS ?_; constructor)))
  rw [hr] at c62
  have n6 := hO.ok.n
  have c65 := C65 hs
  have c30 := C30 (t := t) (by omega)
  have eo : orE s t = 0 := by rw [orE, if_pos hon, if_pos hr]
  have cb := C64 (s := s) (t := t) ⟨hs, by omega⟩
  rw [eo, if_pos rfl, if_pos rfl] at cb
  have hB : ∀ {t' : St8}, bestPp (fun _ => true) s t' = bestP s t' := fun {t'} => by
    rw [← bestPp_nil]; exact gpF_ext (fun k _ => by simp [pmL]) _ _ _ _
  obtain ⟨b1, b2, b3, b4⟩ := best_is (pm := fun _ => true) hO
  rw [hB] at b1 b2 b3 b4
  have hBl : (bestP s t).1.length ≤ 6 ∧ (bestP s t).1.length ≤ s.tk.length := by have := acP_len hO b1; omega
  have hpr := acP_pr.1 b1
  have hrd := rd_facts hon h0 hr hpr
  have hcpE : cpE s t (bestP s t).1 = ((bestP s t).2, 0) := by rw [cpE, if_pos hon, if_pos hpr, b2]
  have c73 := C73 (s := s) (t := t) (l := (bestP s t).1) ⟨hs, by omega, by omega⟩
  rw [hcpE] at c73
  have c74 := C74 (s := s) (t := t) (l := (bestP s t).1) ⟨hs, by omega, by omega⟩
  rw [soE, if_pos hon, if_pos hpr] at c74
  have hBn : ∀ n ∈ (bestP s t).1, 0 ≤ n ∧ n < s.tk.length := fun n hn => (acP_nn hO b1 n hn).1
  have c32 := C32 (l := (bestP s t).1) (by omega)
  have c31 := C31 (l := (bestP s t).1) ⟨by omega, fun n hn => by have := hBn n hn; exact ⟨by omega, by omega⟩⟩
  have kw := wd_len (l := (bestP s t).1) (fun n hn => by have := hBn n hn; exact ⟨by omega, by omega⟩)
  have c35 := C35 (s := wdS (bestP s t).1) (by omega)
  rw [ppE_S (fun n hn => by have := hBn n hn; omega) (by omega)] at c35
  have c44 := C44 (l := (bestP s t).1) (m := (bestP s t).1) (by omega)
  rw [decide_eq_true rfl] at c44
  have hall : ∀ j, j < (bestP s t).1.length → sfK s t (bestP s t).1 j = 0 := by
    have := hpr; rw [prE, eachN_ok] at this; exact this
  have hnd : ∀ i, i < (bestP s t).1.length → (bestP s t).1.getD i 0 ∉ (stK s t (bestP s t).1 i).d := fun i hi =>
    (nx_facts (hrd i (by omega)).ok (hall i hi)).2.2.2.2.2.1
  have hSl : (accL (stK s t (bestP s t).1) ((bestP s t).1.length + 1)).length = (bestP s t).1.length + 1 := accL_len _ _
  have hSg : ∀ i, i ≤ (bestP s t).1.length → (accL (stK s t (bestP s t).1) ((bestP s t).1.length + 1)).getD i st0 = stK s t (bestP s t).1 i := fun i hi => accL_gd _ _ (by omega)
  generalize hPe : (bestP s t).1 = P at *
  generalize hVe : (bestP s t).2 = V at *
  generalize accL (stK s t P) (P.length + 1) = SL at *
  generalize wdS P = PS at *
  have c73 : PFD Tryz.prog 73 [siv s, stv t, .c (ints P)] (.tup [vi .i64 V, vi .i64 0]) := c73
  have c74 : PFD Tryz.prog 74 [siv s, stv t, .c (ints P)] (.tup [.c (stvs SL), vi .i64 0]) := c74
  have c35 : PFD Tryz.prog 35 [sv PS] (.tup [.c (ints P), vi .i64 0]) := c35
  clear b1 b2 b3 b4 hall kw hPe hVe
  refine pi1 fn7 ?_
  (repeat' first | (refine Owe.same ?_; first | refine Owe.o ?_ | refine Owe.mk ?_ ?_) | (refine Fork.same ?_; (first | refine fkY ?_ | refine fkF ?_ | ((first | refine fkD ?_ ?_ | refine fkN ?_ ?_ | refine fkM ?_ ?_) <;> (intro h; try (exfalso; omega))))) | ((first | refine OpsL.same ?_ | refine OpsDL.same ?_); first | refine oK C58 rfl rfl rfl ?_ | refine oK f1 rfl rfl rfl ?_ | refine oK c60 rfl rfl rfl ?_ | refine oK c61 rfl rfl rfl ?_ | refine oK c62 rfl rfl rfl ?_ | refine oK c65 rfl rfl rfl ?_ | refine oK c30 rfl rfl rfl ?_ | refine oK cb rfl rfl rfl ?_ | refine oK c32 rfl rfl rfl ?_ | refine oK c31 rfl rfl rfl ?_ | refine oK c35 rfl rfl rfl ?_ | refine oK c73 rfl rfl rfl ?_ | refine oK c74 rfl rfl rfl ?_ | refine oK c44 rfl rfl rfl ?_) | refine MvQ.stay ?_)
  refine Sat.lp (fun i : Nat => ⟨[(16, vi .i64 i), (3, .c (.rp (siD s))), (4, .c (.rp (stD t))), (5, .c (.bp 0 0)), (10, .c (ints P)), (14, .c (stvs SL))], [(0, .box [int x.lo, int x.hi, int x.p, int x.w, int x.r])], 1⟩) (fun i => i ≤ P.length + 1) (fun i => P.length + 1 - i) 0 [0] (Nat.zero_le _) (by (refine qis ?_ ?_ <;> (repeat' first | exact rfl | (refine qS ?_; constructor)))) ?_
  intro i hi
  by_cases hlt : i ≤ P.length
  · have rd := hrd i hlt
    have hy : (SL.getD ((i : Int)).toNat st0) = stK s t P i := by rw [Int.toNat_natCast]; exact hSg i hlt
    obtain ⟨ro, ron, rre, rlo, rhi, rcp⟩ := rd
    rw [← hy] at ro ron rre rlo rhi rcp
    obtain ⟨s1, s2, s3⟩ := stR_of ro
    have n6y := ro.ok.n
    have d30 := C30 (t := (SL.getD ((i : Int)).toNat st0)) (by omega)
    have d29 := C29 s3
    have kl := st_len s3 (by omega)
    have d34 := C34 (s := stS (SL.getD ((i : Int)).toNat st0)) (by omega)
    rw [sdE_S s1 (by omega)] at d34
    have d34 : PFD Tryz.prog 34 [sv (stS (SL.getD ((i : Int)).toNat st0))] (.tup [stv (SL.getD ((i : Int)).toNat st0), vi .i64 0]) := d34
    have d43 := C43 (a := (SL.getD ((i : Int)).toNat st0)) (b := (SL.getD ((i : Int)).toNat st0)) (by omega)
    rw [same_rf] at d43
    have d75 := C75 (s := s) (t := (SL.getD ((i : Int)).toNat st0)) ⟨hs, by omega⟩
    rw [ron, rre, decide_eq_true rfl, Bool.true_and] at d75
    obtain ⟨l1, l2, l3⟩ := lrE_ok ron rre
    have d76 := C76 (s := s) (t := (SL.getD ((i : Int)).toNat st0)) ⟨hs, by omega⟩
    rw [l1] at d76
    have d77 := C77 (s := s) (t := (SL.getD ((i : Int)).toNat st0)) ⟨hs, by omega⟩
    rw [ron] at d77
    have d77 : PFD Tryz.prog 77 [siv s, stv (SL.getD ((i : Int)).toNat st0)] (.tup [.agg [int (hmT s (SL.getD ((i : Int)).toNat st0)), int (hmT s (SL.getD ((i : Int)).toNat st0) * s.swim)], vi .i64 0]) := d77
    have hre := rre
    rw [reB, decide_eq_true_eq] at hre
    have hdv := hmT_bd ro.b
    have hmm := mbd (a := hmT s (SL.getD ((i : Int)).toNat st0)) (A := 20000) (by omega) (b := s.swim) (B := 10000) (by have := ro.ok.e; omega)
    have roe := ro.en
    have rot := ro.tm
    have roe2 := ro.ok.e
    have d32 := C32d (l := P) (k := ((i : Int)).toNat) (by omega)
    have rcp : (cpE s (SL.getD ((i : Int)).toNat st0) (P.drop ((i : Int)).toNat)).2 = 0 := by simpa only [Int.toNat_natCast] using rcp
    have d73 := C73 (s := s) (t := (SL.getD ((i : Int)).toNat st0)) (l := P.drop ((i : Int)).toNat) ⟨hs, by omega, by rw [List.length_drop]; omega⟩
    rw [rcp] at d73
    have hrw : R64 ((SL.getD ((i : Int)).toNat st0).w - hmT s (SL.getD ((i : Int)).toNat st0) * s.swim) := ⟨by omega, by omega⟩
    have hrt : R64 ((SL.getD ((i : Int)).toNat st0).t + hmT s (SL.getD ((i : Int)).toNat st0)) := ⟨by omega, by omega⟩
    have hix : 0 ≤ (i : Int) ∧ (i : Int) < SL.length := ⟨by omega, by omega⟩
    generalize (lrE s (SL.getD ((i : Int)).toNat st0)).1 = la at *
    generalize (cpE s (SL.getD ((i : Int)).toNat st0) (P.drop ((i : Int)).toNat)).1 = cv at *
    generalize hmT s (SL.getD ((i : Int)).toNat st0) * s.swim = hw at *
    by_cases hlt2 : i < P.length
    · have hm : (P.getD ((i : Int)).toNat 0) ∈ P := by rw [Int.toNat_natCast]; exact getD_mem _ hlt2
      have hmb := hBn _ hm
      have hmd : (P.getD ((i : Int)).toNat 0) ∉ ((SL.getD ((i : Int)).toNat st0)).d := by rw [hy, Int.toNat_natCast]; exact hnd i hlt2
      have hD := DpF.of (m := (P.getD ((i : Int)).toNat 0)) ro h0 hmb
      have itk : isTk s (P.getD ((i : Int)).toNat 0) = true := by simp only [isTk, wi, decide_eq_true_eq]; omega
      have e77 : reE s (SL.getD ((i : Int)).toNat st0) (P.getD ((i : Int)).toNat 0) = 0 := by rw [reE, ron, itk]; rfl
      have e78 : raE s (SL.getD ((i : Int)).toNat st0) (P.getD ((i : Int)).toNat 0) = 0 := by rw [raE, if_pos e77, rpX, decide_eq_false hmd, rre]; rfl
      have e79 : deE s (P.getD ((i : Int)).toNat 0) = 0 := by rw [deE, h0, itk]; rfl
      have d78 := C78 (s := s) (t := (SL.getD ((i : Int)).toNat st0)) (n := (P.getD ((i : Int)).toNat 0)) ⟨hs, by omega⟩
      rw [e78, if_pos rfl, if_pos rfl] at d78
      have d79 := C79 (s := s) (n := (P.getD ((i : Int)).toNat 0)) hs
      rw [e79, if_pos rfl] at d79
      obtain ⟨w1, w2, _, _⟩ := best_is (pm := pmD s (P.getD ((i : Int)).toNat 0)) ro
      obtain ⟨b1, b2, b3, b4⟩ := best_is (pm := fun _ => true) ro
      rw [hB] at b1 b2 b3 b4
      have hvm : (bestPp (pmD s (P.getD ((i : Int)).toNat 0)) s (SL.getD ((i : Int)).toNat st0)).2 ≤ (bestP s (SL.getD ((i : Int)).toNat st0)).2 := by rw [← w2]; exact b3 _ (acP_wk (fun _ _ => rfl) w1)
      have hWl : (bestPp (pmD s (P.getD ((i : Int)).toNat 0)) s (SL.getD ((i : Int)).toNat st0)).1.length ≤ 6 := by have := acP_len ro w1; omega
      have g32 := C32 (l := (bestPp (pmD s (P.getD ((i : Int)).toNat 0)) s (SL.getD ((i : Int)).toNat st0)).1) (by omega)
      have g73 := C73 (s := s) (t := (SL.getD ((i : Int)).toNat st0)) (l := (bestPp (pmD s (P.getD ((i : Int)).toNat 0)) s (SL.getD ((i : Int)).toNat st0)).1) ⟨hs, by omega, by omega⟩
      rw [cpE, if_pos ron, if_pos (acP_pr.1 (acP_wk (fun _ _ => rfl) w1)), w2] at g73
      have g73 : PFD Tryz.prog 73 [siv s, stv (SL.getD ((i : Int)).toNat st0), .c (ints (bestPp (pmD s (P.getD ((i : Int)).toNat 0)) s (SL.getD ((i : Int)).toNat st0)).1)] (.tup [vi .i64 (bestPp (pmD s (P.getD ((i : Int)).toNat 0)) s (SL.getD ((i : Int)).toNat st0)).2, vi .i64 0]) := g73
      have e64 : orE s (SL.getD ((i : Int)).toNat st0) = 0 := by rw [orE, if_pos ron, if_pos rre]
      have d64 := C64 (s := s) (t := (SL.getD ((i : Int)).toNat st0)) ⟨hs, by omega⟩
      rw [e64, if_pos rfl, if_pos rfl] at d64
      have d80 := C80 (l := (bestPp (pmD s (P.getD ((i : Int)).toNat 0)) s (SL.getD ((i : Int)).toNat st0)).1) (n := (P.getD ((i : Int)).toNat 0)) (by omega)
      rw [decide_eq_false hD.me] at d80
      have hDl : (depL s (P.getD ((i : Int)).toNat 0) s.tk.length).length ≤ 6 := by
        have : (depL s (P.getD ((i : Int)).toNat 0) s.tk.length).length ≤ s.tk.length := fltL_len _ _
        omega
      clear b1 b2 b3 b4 w1 w2 e77 e78 e79
      generalize bestPp (pmD s (P.getD ((i : Int)).toNat 0)) s (SL.getD ((i : Int)).toNat st0) = W at *
      generalize bestP s (SL.getD ((i : Int)).toNat st0) = B at *
      generalize depL s (P.getD ((i : Int)).toNat 0) s.tk.length = D at *
      (repeat' first | (refine Owe.same ?_; first | refine Owe.o ?_ | refine Owe.mk ?_ ?_) | (refine Fork.same ?_; (first | refine fkY ?_ | refine fkF ?_ | ((first | refine fkD ?_ ?_ | refine fkN ?_ ?_ | refine fkM ?_ ?_) <;> (intro h; try (exfalso; omega))))) | ((first | refine OpsL.same ?_ | refine OpsDL.same ?_); first | refine oK C58 rfl rfl rfl ?_ | refine oK f1 rfl rfl rfl ?_ | refine oK c60 rfl rfl rfl ?_ | refine oK c61 rfl rfl rfl ?_ | refine oK c62 rfl rfl rfl ?_ | refine oK c65 rfl rfl rfl ?_ | refine oK d30 rfl rfl rfl ?_ | refine oK d29 rfl rfl rfl ?_ | refine oK d34 rfl rfl rfl ?_ | refine oK d43 rfl rfl rfl ?_ | refine oK d75 rfl rfl rfl ?_ | refine oK d76 rfl rfl rfl ?_ | refine oK d77 rfl rfl rfl ?_ | refine oK d32 rfl rfl rfl ?_ | refine oK d73 rfl rfl rfl ?_ | refine oK d78 rfl rfl rfl ?_ | refine oK d79 rfl rfl rfl ?_ | refine oK g32 rfl rfl rfl ?_ | refine oK g73 rfl rfl rfl ?_ | refine oK d64 rfl rfl rfl ?_ | refine oK d80 rfl rfl rfl ?_) | refine MvQ.stay ?_)
      refine Sat.lp (fun k : Nat => ⟨[(37, vi .i64 k), (27, .c (ints W.1)), (30, .c (ints D)), (16, vi .i64 i), (3, .c (.rp (siD s))), (4, .c (.rp (stD t))), (5, .c (.bp 0 0)), (10, .c (ints P)), (14, .c (stvs SL))], [(0, .box [int x.lo, int x.hi, int x.p, int x.w, int x.r])], 1⟩) (fun k => k ≤ D.length) (fun k => D.length - k) 0 [0] (Nat.zero_le _) (by (refine qis ?_ ?_ <;> (repeat' first | exact rfl | (refine qS ?_; constructor)))) ?_
      intro k hk
      by_cases hkt : k < D.length
      · have q1 := hD.lo k hkt
        have g1 := C80 (l := W.1) (n := D.getD ((k : Int)).toNat 0) (by omega)
        rw [decide_eq_false (by rw [Int.toNat_natCast]; exact hD.no k hkt)] at g1
        (repeat' first | (refine Owe.same ?_; first | refine Owe.o ?_ | refine Owe.mk ?_ ?_) | (refine Fork.same ?_; (first | refine fkY ?_ | refine fkF ?_ | ((first | refine fkD ?_ ?_ | refine fkN ?_ ?_ | refine fkM ?_ ?_) <;> (intro h; try (exfalso; omega))))) | ((first | refine OpsL.same ?_ | refine OpsDL.same ?_); first | refine oK g1 rfl rfl rfl ?_) | refine MvQ.stay ?_)
        exact again (k + 1) [0] hkt (by omega) (by (refine qis ?_ ?_ <;> (repeat' first | exact rfl | (refine qS ?_; constructor))))
      · (repeat' first | (refine Owe.same ?_; first | refine Owe.o ?_ | refine Owe.mk ?_ ?_) | (refine Fork.same ?_; (first | refine fkY ?_ | refine fkF ?_ | ((first | refine fkD ?_ ?_ | refine fkN ?_ ?_ | refine fkM ?_ ?_) <;> (intro h; try (exfalso; omega))))) | ((first | refine OpsL.same ?_ | refine OpsDL.same ?_); first | refine oK g32 rfl rfl rfl ?_) | refine MvQ.stay ?_)
        exact again (i + 1) [0] (by omega) (by omega) (by (refine qis ?_ ?_ <;> (repeat' first | exact rfl | (refine qS ?_; constructor))))
    · (repeat' first | (refine Owe.same ?_; first | refine Owe.o ?_ | refine Owe.mk ?_ ?_) | (refine Fork.same ?_; (first | refine fkY ?_ | refine fkF ?_ | ((first | refine fkD ?_ ?_ | refine fkN ?_ ?_ | refine fkM ?_ ?_) <;> (intro h; try (exfalso; omega))))) | ((first | refine OpsL.same ?_ | refine OpsDL.same ?_); first | refine oK C58 rfl rfl rfl ?_ | refine oK f1 rfl rfl rfl ?_ | refine oK c60 rfl rfl rfl ?_ | refine oK c61 rfl rfl rfl ?_ | refine oK c62 rfl rfl rfl ?_ | refine oK c65 rfl rfl rfl ?_ | refine oK d30 rfl rfl rfl ?_ | refine oK d29 rfl rfl rfl ?_ | refine oK d34 rfl rfl rfl ?_ | refine oK d43 rfl rfl rfl ?_ | refine oK d75 rfl rfl rfl ?_ | refine oK d76 rfl rfl rfl ?_ | refine oK d77 rfl rfl rfl ?_ | refine oK d32 rfl rfl rfl ?_ | refine oK d73 rfl rfl rfl ?_) | refine MvQ.stay ?_)
      exact again (i + 1) [0] (by omega) (by omega) (by (refine qis ?_ ?_ <;> (repeat' first | exact rfl | (refine qS ?_; constructor))))
  · obtain ⟨ro, ron, rre, rlo, rhi, rcp⟩ := hrd P.length (Nat.le_refl _)
    have hy : (SL.getD ((SL.length : Int) - 1).toNat st0) = stK s t P P.length := by rw [show ((SL.length : Int) - 1).toNat = P.length by omega]; exact hSg _ (Nat.le_refl _)
    have hlo : ∀ j, j ≤ P.length → t.t ≤ (SL.getD j st0).t ∧ (SL.getD j st0).t ≤ ((SL.getD ((SL.length : Int) - 1).toNat st0)).t := fun j hj => by
      have r := hrd j hj
      rw [hSg j hj, hy]
      exact ⟨r.lo, r.hi⟩
    rw [← hy] at ro ron rre
    have n6y := ro.ok.n
    have s2 := (stR_of ro).2.1
    have d30 := C30 (t := (SL.getD ((SL.length : Int) - 1).toNat st0)) (by omega)
    obtain ⟨l1, l2, l3⟩ := lrE_ok ron rre
    have d76 := C76 (s := s) (t := (SL.getD ((SL.length : Int) - 1).toNat st0)) ⟨hs, by omega⟩
    rw [l1] at d76
    generalize (lrE s (SL.getD ((SL.length : Int) - 1).toNat st0)).1 = la at *
    have d81 := C81 (x := ⟨t.t, la, x.p, x.w, x.r⟩)
    have hix : 0 ≤ (SL.length : Int) - 1 ∧ (SL.length : Int) - 1 < SL.length := ⟨by omega, by omega⟩
    by_cases hx : rtE ⟨t.t, la, x.p, x.w, x.r⟩ = 0
    rotate_left
    · generalize rtE ⟨t.t, la, x.p, x.w, x.r⟩ = e at *
      (repeat' first | (refine Owe.same ?_; first | refine Owe.o ?_ | refine Owe.mk ?_ ?_) | (refine Fork.same ?_; (first | refine fkY ?_ | refine fkF ?_ | ((first | refine fkD ?_ ?_ | refine fkN ?_ ?_ | refine fkM ?_ ?_) <;> (intro h; try (exfalso; omega))))) | ((first | refine OpsL.same ?_ | refine OpsDL.same ?_); first | refine oK c65 rfl rfl rfl ?_ | refine oK d30 rfl rfl rfl ?_ | refine oK d76 rfl rfl rfl ?_ | refine oK d81 rfl rfl rfl ?_) | refine MvQ.stay ?_)
      (refine rqK rfl ?_; (repeat' first | exact rfl | (refine qS ?_; constructor)))
    rw [hx] at d81
    have d82 := C82 (x := ⟨t.t, la, x.p, x.w, x.r⟩)
    rw [wfE, if_pos hx] at d82
    by_cases h40 : la - t.t + 1 > 40 * x.w
    · rw [if_pos h40] at d82
      have d82 : PFD Tryz.prog 82 [rtv ⟨t.t, la, x.p, x.w, x.r⟩] (.tup [.c (trs []), vi .i64 8]) := d82
      (repeat' first | (refine Owe.same ?_; first | refine Owe.o ?_ | refine Owe.mk ?_ ?_) | (refine Fork.same ?_; (first | refine fkY ?_ | refine fkF ?_ | ((first | refine fkD ?_ ?_ | refine fkN ?_ ?_ | refine fkM ?_ ?_) <;> (intro h; try (exfalso; omega))))) | ((first | refine OpsL.same ?_ | refine OpsDL.same ?_); first | refine oK c65 rfl rfl rfl ?_ | refine oK d30 rfl rfl rfl ?_ | refine oK d76 rfl rfl rfl ?_ | refine oK d81 rfl rfl rfl ?_ | refine oK d82 rfl rfl rfl ?_) | refine MvQ.stay ?_)
      (refine rqK rfl ?_; (repeat' first | exact rfl | (refine qS ?_; constructor)))
    rw [if_neg h40] at d82
    by_cases hno : noX ⟨t.t, la, x.p, x.w, x.r⟩
    rotate_left
    · rw [if_neg hno] at d82
      have d82 : PFD Tryz.prog 82 [rtv ⟨t.t, la, x.p, x.w, x.r⟩] (.tup [.c (trs []), vi .i64 24]) := d82
      (repeat' first | (refine Owe.same ?_; first | refine Owe.o ?_ | refine Owe.mk ?_ ?_) | (refine Fork.same ?_; (first | refine fkY ?_ | refine fkF ?_ | ((first | refine fkD ?_ ?_ | refine fkN ?_ ?_ | refine fkM ?_ ?_) <;> (intro h; try (exfalso; omega))))) | ((first | refine OpsL.same ?_ | refine OpsDL.same ?_); first | refine oK c65 rfl rfl rfl ?_ | refine oK d30 rfl rfl rfl ?_ | refine oK d76 rfl rfl rfl ?_ | refine oK d81 rfl rfl rfl ?_ | refine oK d82 rfl rfl rfl ?_) | refine MvQ.stay ?_)
      (refine rqK rfl ?_; (repeat' first | exact rfl | (refine qS ?_; constructor)))
    rw [if_pos hno] at d82
    obtain ⟨hp, ho⟩ := rtE_ok hx
    have e83 := wt_cwE hx (show la - t.t < 40 * x.w by omega)
    rw [if_pos hno] at e83
    have n40 := nW_40 hp ho (show la - t.t < 40 * x.w by omega)
    have hWl : (wL ⟨t.t, la, x.p, x.w, x.r⟩ (nW ⟨t.t, la, x.p, x.w, x.r⟩)).length = nW ⟨t.t, la, x.p, x.w, x.r⟩ := accL_len _ _
    have hWg : ∀ j, j < nW ⟨t.t, la, x.p, x.w, x.r⟩ → (wL ⟨t.t, la, x.p, x.w, x.r⟩ (nW ⟨t.t, la, x.p, x.w, x.r⟩)).getD j (0, 0, 0) = wtF ⟨t.t, la, x.p, x.w, x.r⟩ j := fun j hj => wL_get hj
    have d84 := C84 (l := wL ⟨t.t, la, x.p, x.w, x.r⟩ (nW ⟨t.t, la, x.p, x.w, x.r⟩)) (by omega)
    have d83 := C83 (x := ⟨t.t, la, x.p, x.w, x.r⟩) (l := wL ⟨t.t, la, x.p, x.w, x.r⟩ (nW ⟨t.t, la, x.p, x.w, x.r⟩)) (by omega)
    rw [e83] at d83
    have hone : ∀ j, j ≤ P.length → ∃ q, q < nW ⟨t.t, la, x.p, x.w, x.r⟩ ∧ ∀ k, k < nW ⟨t.t, la, x.p, x.w, x.r⟩ → (((wtF ⟨t.t, la, x.p, x.w, x.r⟩ k).2.1 ≤ (SL.getD j st0).t ∧ (SL.getD j st0).t ≤ (wtF ⟨t.t, la, x.p, x.w, x.r⟩ k).2.2) ↔ k = q) := fun j hj => by
      have := hlo j hj
      exact wt_one hp ho ⟨this.1, by show (SL.getD j st0).t ≤ la; omega⟩
    have hone : ∀ j, j ≤ P.length → ∃ q, q < nW ⟨t.t, la, x.p, x.w, x.r⟩ ∧ ∀ k, k < nW ⟨t.t, la, x.p, x.w, x.r⟩ → ((((wL ⟨t.t, la, x.p, x.w, x.r⟩ (nW ⟨t.t, la, x.p, x.w, x.r⟩)).getD k (0, 0, 0)).2.1 ≤ (SL.getD j st0).t ∧ (SL.getD j st0).t ≤ ((wL ⟨t.t, la, x.p, x.w, x.r⟩ (nW ⟨t.t, la, x.p, x.w, x.r⟩)).getD k (0, 0, 0)).2.2) ↔ k = q) := fun j hj => by
      obtain ⟨q, h1, h2⟩ := hone j hj
      exact ⟨q, h1, fun k hk => by rw [hWg k hk]; exact h2 k hk⟩
    clear hWg e83
    generalize (cwE ⟨t.t, la, x.p, x.w, x.r⟩ (wL ⟨t.t, la, x.p, x.w, x.r⟩ (nW ⟨t.t, la, x.p, x.w, x.r⟩))).1 = cw at *
    generalize wL ⟨t.t, la, x.p, x.w, x.r⟩ (nW ⟨t.t, la, x.p, x.w, x.r⟩) = WL at *
    generalize nW ⟨t.t, la, x.p, x.w, x.r⟩ = nw at *
    have d82 : PFD Tryz.prog 82 [rtv ⟨t.t, la, x.p, x.w, x.r⟩] (.tup [.c (trs WL), vi .i64 0]) := d82
    (repeat' first | (refine Owe.same ?_; first | refine Owe.o ?_ | refine Owe.mk ?_ ?_) | (refine Fork.same ?_; (first | refine fkY ?_ | refine fkF ?_ | ((first | refine fkD ?_ ?_ | refine fkN ?_ ?_ | refine fkM ?_ ?_) <;> (intro h; try (exfalso; omega))))) | ((first | refine OpsL.same ?_ | refine OpsDL.same ?_); first | refine oK c65 rfl rfl rfl ?_ | refine oK d30 rfl rfl rfl ?_ | refine oK d76 rfl rfl rfl ?_ | refine oK d81 rfl rfl rfl ?_ | refine oK d82 rfl rfl rfl ?_ | refine oK d83 rfl rfl rfl ?_ | refine oK d84 rfl rfl rfl ?_) | refine MvQ.stay ?_)
    refine Sat.lp0 (fun j : Nat => [(44, vi .i64 j), (43, vi .i64 0), (40, .c (trs WL)), (14, .c (stvs SL))]) (fun j => j ≤ P.length + 1) (fun j => P.length + 1 - j) 0 (Nat.zero_le _) (by ((first | refine qen ?_ | refine qvs ?_ | refine qeq ?_ | refine qst ?_ | refine qv ?_ | refine qc ?_ | refine qe ?_ | refine qcs ?_ | skip); (repeat' first | exact rfl | (refine qS ?_; constructor)))) ?_
    intro j hj
    by_cases hjt : j < P.length + 1
    · obtain ⟨q, hq, hk⟩ := hone j (by omega)
      (repeat' first | (refine Owe.same ?_; first | refine Owe.o ?_ | refine Owe.mk ?_ ?_) | (refine Fork.same ?_; (first | refine fkY ?_ | refine fkF ?_ | ((first | refine fkD ?_ ?_ | refine fkN ?_ ?_ | refine fkM ?_ ?_) <;> (intro h; try (exfalso; omega))))) | ((first | refine OpsL.same ?_ | refine OpsDL.same ?_); first | refine oK c65 rfl rfl rfl ?_) | refine MvQ.stay ?_)
      (repeat' first | (refine Owe.same ?_; first | refine Owe.o ?_ | refine Owe.mk ?_ ?_) | (refine Fork.same ?_; (first | refine fkD ?_ ?_ | refine fkN ?_ ?_ | refine fkM ?_ ?_) <;> intro h) | refine MvQ.stay ?_)
      obtain ⟨g, hg⟩ : ∃ g : Nat → Int, ∀ k, g k = if q < k then 1 else 0 := ⟨_, fun _ => rfl⟩
      have g0 : g 0 = 0 := hg 0
      refine Sat.lp0 (fun k : Nat => [(46, vi .i64 k), (45, vi .i64 (g k)), (44, vi .i64 j), (43, vi .i64 0), (40, .c (trs WL)), (14, .c (stvs SL))]) (fun k => k ≤ WL.length) (fun k => WL.length - k) 0 (Nat.zero_le _) (by ((first | refine qen ?_ | refine qvs ?_ | refine qeq ?_ | refine qst ?_ | refine qv ?_ | refine qc ?_ | refine qe ?_ | refine qcs ?_ | skip); (repeat' first | exact rfl | (refine qS ?_; constructor))); exact g0.symm) ?_
      intro k hk2
      by_cases hkt : k < WL.length
      · have c46 := C46 (n := (SL.getD ((j : Int)).toNat st0).t) (lo := (WL.getD ((k : Int)).toNat (0, 0, 0)).2.1) (hi := (WL.getD ((k : Int)).toNat (0, 0, 0)).2.2)
        have e : wi (SL.getD ((j : Int)).toNat st0).t (WL.getD ((k : Int)).toNat (0, 0, 0)).2.1 (WL.getD ((k : Int)).toNat (0, 0, 0)).2.2 = decide (k = q) := by
          rw [Int.toNat_natCast, Int.toNat_natCast]; exact decide_eq_decide.2 (hk k (by omega))
        rw [e] at c46
        have gk := hg k
        have gk1 := hg (k + 1)
        by_cases hkq : k = q
        · rw [decide_eq_true hkq] at c46
          rw [if_neg (by omega)] at gk
          rw [if_pos (by omega)] at gk1
          (repeat' first | (refine Owe.same ?_; first | refine Owe.o ?_ | refine Owe.mk ?_ ?_) | (refine Fork.same ?_; (first | refine fkY ?_ | refine fkF ?_ | ((first | refine fkD ?_ ?_ | refine fkN ?_ ?_ | refine fkM ?_ ?_) <;> (intro h; try (exfalso; omega))))) | ((first | refine OpsL.same ?_ | refine OpsDL.same ?_); first | refine oK c46 rfl rfl rfl ?_) | refine MvQ.stay ?_)
          exact again0 (k + 1) hkt (by omega) (by ((first | refine qen ?_ | refine qvs ?_ | refine qeq ?_ | refine qst ?_ | refine qv ?_ | refine qc ?_ | refine qe ?_ | refine qcs ?_ | skip); (repeat' first | exact rfl | (refine qS ?_; constructor))); omega)
        · rw [decide_eq_false hkq] at c46
          have ge : g (k + 1) = g k := by rw [gk, gk1]; by_cases h : q < k <;> simp [h] <;> omega
          (repeat' first | (refine Owe.same ?_; first | refine Owe.o ?_ | refine Owe.mk ?_ ?_) | (refine Fork.same ?_; (first | refine fkY ?_ | refine fkF ?_ | ((first | refine fkD ?_ ?_ | refine fkN ?_ ?_ | refine fkM ?_ ?_) <;> (intro h; try (exfalso; omega))))) | ((first | refine OpsL.same ?_ | refine OpsDL.same ?_); first | refine oK c46 rfl rfl rfl ?_) | refine MvQ.stay ?_)
          exact again0 (k + 1) hkt (by omega) (by ((first | refine qen ?_ | refine qvs ?_ | refine qeq ?_ | refine qst ?_ | refine qv ?_ | refine qc ?_ | refine qe ?_ | refine qcs ?_ | skip); (repeat' first | exact rfl | (refine qS ?_; constructor))); omega)
      · have gk := hg k
        rw [if_pos (by omega)] at gk
        (repeat' first | (refine Owe.same ?_; first | refine Owe.o ?_ | refine Owe.mk ?_ ?_) | (refine Fork.same ?_; (first | refine fkY ?_ | refine fkF ?_ | ((first | refine fkD ?_ ?_ | refine fkN ?_ ?_ | refine fkM ?_ ?_) <;> (intro h; try (exfalso; omega))))) | ((first | refine OpsL.same ?_ | refine OpsDL.same ?_); first | refine oK c65 rfl rfl rfl ?_) | refine MvQ.stay ?_)
        exact again0 (j + 1) (by omega) (by omega) (by ((first | refine qen ?_ | refine qvs ?_ | refine qeq ?_ | refine qst ?_ | refine qv ?_ | refine qc ?_ | refine qe ?_ | refine qcs ?_ | skip); (repeat' first | exact rfl | (refine qS ?_; constructor))))
    · (repeat' first | (refine Owe.same ?_; first | refine Owe.o ?_ | refine Owe.mk ?_ ?_) | (refine Fork.same ?_; (first | refine fkY ?_ | refine fkF ?_ | ((first | refine fkD ?_ ?_ | refine fkN ?_ ?_ | refine fkM ?_ ?_) <;> (intro h; try (exfalso; omega))))) | ((first | refine OpsL.same ?_ | refine OpsDL.same ?_); first | refine oK c65 rfl rfl rfl ?_) | refine MvQ.stay ?_)
      (refine rqK rfl ?_; (repeat' first | exact rfl | (refine qS ?_; constructor)))
end Go.Pw
set_option linter.unusedVariables false
namespace Go.Proofs.YtailfkllanegeaaGreatDoor
open Go.ChangeShapes Go.WideShapes Go.ChangeAt Go.RowKit Go.Pw
abbrev laids : List (String × DataW Unit) := Rows.cableStringsRow.laid
theorem var_at {W : World} {name : String} {g : Nat} {cs : Array Value} (hg : Tryz.prog.globalNamed name = some g) (hv : World.var? Tryz.prog W name = some cs) : ∃ t fr, W.heap[g]? = some (.cells cs t fr) := by
  unfold World.var? at hv
  rw [hg, Option.bind_some] at hv
  split at hv
  · rename_i cs' t fr h
    cases hv
    exact ⟨t, fr, h⟩
  · cases hv
set_option maxRecDepth 100000 in
theorem ifc_at {W : World} {name : String} {g : Nat} {cs : Array Value} {fuel : Nat} {d : DataW Unit} {p : List MemPlace} {b : Nat} {sp : Nat → Bool} {hd : Bool} {enc : TypeId × Value → Unit} (hg : Tryz.prog.globalNamed name = some g) (hv : World.var? Tryz.prog W name = some cs)
    (h : DataW.trod enc Tryz.prog W b sp hd fuel 258 cs.toList = some (d, p)) : ifcW W g := by
  obtain ⟨t, fr, hh⟩ := var_at hg hv
  cases fuel with
  | zero => simp [DataW.trod] at h
  | succ fuel =>
    have hu := Tryz.underlying258
    generalize #[("Error", 261)] = ms at hu
    obtain ⟨l⟩ := cs
    simp only [DataW.trod, hu] at h
    split at h
    all_goals first
      | (have q := (by assumption : some (TypeDesc.interface ms) = some _); injection q with q; cases q; done)
      | (cases h; done)
      | exact ⟨.nilIface, by rw [Lib.cell_of_heap hh]; rfl, .inl rfl⟩
      | exact ⟨_, by rw [Lib.cell_of_heap hh]; rfl, .inr ⟨_, _, rfl⟩⟩
set_option maxRecDepth 100000 in
/-- What the listed variables hold. -/
theorem of_laid {W : World} (h : laidMetH Tryz.prog laids W) : LaidW W := by
  rw [MakeChecks.laidMetH_plain _ _ _ (by kernel_rfl)] at h
  obtain ⟨ps, ⟨g0, t0, cs0, f0, p0, q0, hg0, ht0, hv0, hd0, ⟨g1, t1, cs1, f1, p1, q1, hg1, ht1, hv1, hd1, ⟨g2, t2, cs2, f2, p2, q2, hg2, ht2, hv2, hd2, ⟨g3, t3, cs3, f3, p3, q3, hg3, ht3, hv3, hd3, ⟨g4, t4, cs4, f4, p4, q4, hg4, ht4, hv4, hd4, ⟨g5, t5, cs5, f5, p5, q5, hg5, ht5, hv5, hd5, _⟩, _⟩, _⟩, _⟩, _⟩, _⟩, _⟩ := h
  have e2 : g2 = 5 := Option.some.inj (hg2.symm.trans sh_laysM171.m17)
  have e4 : g4 = 2 := Option.some.inj (hg4.symm.trans sh_laysC172.m16)
  have e5 : g5 = 1 := Option.some.inj (hg5.symm.trans sh_laysC172.m15)
  subst e2; subst e4; subst e5
  have k2 : t2 = 361 := Option.some.inj (ht2.symm.trans (by kernel_rfl))
  have k4 : t4 = 258 := Option.some.inj (ht4.symm.trans (by kernel_rfl))
  have k5 : t5 = 258 := Option.some.inj (ht5.symm.trans (by kernel_rfl))
  subst k2; subst k4; subst k5
  refine ⟨?_, ifc_at hg5 hv5 hd5, ifc_at hg4 hv4 hd4⟩
  obtain ⟨t, fr, hh⟩ := var_at hg2 hv2
  have hcs := Lib.cells_of_tab (k := .u64) (zs := Lib.pow10Tab) Tryz.underlying361 Tryz.underlying298 (by kernel_rfl) (by kernel_rfl) hd2
  refine ⟨t, fr, ?_⟩
  rw [hh]
  obtain ⟨l⟩ := cs2
  simp only at hcs
  rw [hcs]
end Go.Proofs.YtailfkllanegeaaGreatDoor
