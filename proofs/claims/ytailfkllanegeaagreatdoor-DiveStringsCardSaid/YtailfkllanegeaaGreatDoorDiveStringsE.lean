/- Steps toward the row of this claim: part 5 of 7. Proved as named below, on no condition but those that each theorem states. -/
import Derived.Test.YtailfkllanegeaaGreatDoorDiveStringsD
import Derived.Test.YtailfkllanegeaaGreatDoorProg
set_option linter.unusedVariables false
set_option maxHeartbeats 2000000
set_option maxRecDepth 100000
namespace Go.Pw
open Go Go.Proofs
def lc225m : LCode :=
  (.seq (.region [⟨some 2, .boxS (.tmp 0), none⟩, ⟨some 4, .alloc [(.slice none 0 0), (.slice none 0 0), (.slice none 0 0), (.slice none 0 0), (.int .i64 0), (.int .i64 0), (.int
    .i64 0), (.int .i64 0), (.int .i64 0), (.int .i64 0), (.int .i64 0), (.int .i64 0), (.slice none 0 0)], none⟩, ⟨some 5, .mv (.const (.int .i64 0)), none⟩]) (.seq (.region [⟨some
    13, .fld 0 (.tmp 2), none⟩, ⟨some 14, .fld 0 (.tmp 13), none⟩, ⟨some 15, .load false 1 (.tmp 14), none⟩, ⟨some 16, .mv (.tmp 1), none⟩, ⟨some 17, .idx 9 (.tmp 15) (.tmp 16),
    none⟩, ⟨some 18, .load true 9 (.tmp 17), none⟩, ⟨some 6, .alloc [(.string ⟨#[]⟩), (.int .i64 0), (.int .i64 0), (.int .i64 0), (.int .i64 0), (.int .i64 0), (.int .i64 0), (.int
    .i64 0), (.slice none 0 0)], none⟩, ⟨none, .store 9 (.tmp 6) (.tmp 18), none⟩]) (.seq (.regionD [⟨some 19, .load true 13 (.tmp 2), none⟩, ⟨some 20, .fld 0 (.tmp 2), none⟩, ⟨some
    21, .fld 1 (.tmp 20), none⟩, ⟨some 22, .load false 1 (.tmp 21), none⟩, ⟨some 23, .fld 8 (.tmp 2), none⟩, ⟨some 24, .fld 0 (.tmp 23), none⟩, ⟨some 25, .load false 1 (.tmp 24),
    none⟩, ⟨some 26, .idx 1 (.tmp 22) (.tmp 25), none⟩, ⟨some 27, .load false 1 (.tmp 26), none⟩, ⟨some 28, .fld 1 (.tmp 6), none⟩, ⟨some 29, .load false 1 (.tmp 28), none⟩, ⟨some
    30, .idx 1 (.tmp 27) (.tmp 29), none⟩, ⟨some 31, .load false 1 (.tmp 30), none⟩, ⟨some 32, .fld 8 (.tmp 2), none⟩, ⟨some 33, .fld 1 (.tmp 32), none⟩, ⟨some 34, .load false 1
    (.tmp 33), none⟩, ⟨some 35, .call (.func 227) [(.tmp 19), (.tmp 31), (.tmp 34)], none⟩, ⟨some 7, .mv (.tmp 35), none⟩] [0, 0, 2, 6, 0, 16, 48, 126, 254, 0, 512, 2046, 4094, 0,
    8192, 24576, 65535, 131071] [0, 1, 2, 3, 4, 5, 6, 7, 8, 9, 10, 11, 12, 13, 14, 15, 16, 17]) (.seq (.region [⟨some 36, .fld 8 (.tmp 2), none⟩, ⟨some 37, .fld 1 (.tmp 36), none⟩,
    ⟨some 38, .load false 1 (.tmp 37), none⟩, ⟨some 39, .mv (.tmp 7), none⟩, ⟨some 40, .bin .add (.tmp 38) (.tmp 39), none⟩, ⟨some 8, .mv (.tmp 40), none⟩]) (.seq (.region [⟨some
    41, .mv (.tmp 8), none⟩, ⟨some 42, .fld 6 (.tmp 6), none⟩, ⟨some 43, .fld 0 (.tmp 42), none⟩, ⟨some 44, .load false 1 (.tmp 43), none⟩, ⟨some 45, .mm true [(.tmp 41), (.tmp
    44)], none⟩, ⟨some 9, .mv (.tmp 45), none⟩]) (.seq (.region [⟨some 46, .load true 13 (.tmp 2), none⟩, ⟨some 10, .alloc [(.slice none 0 0), (.slice none 0 0), (.slice none 0 0),
    (.slice none 0 0), (.int .i64 0), (.int .i64 0), (.int .i64 0), (.int .i64 0), (.int .i64 0), (.int .i64 0), (.int .i64 0), (.int .i64 0), (.slice none 0 0)], none⟩, ⟨none,
    .store 13 (.tmp 10) (.tmp 46), none⟩]) (.seq (.regionD [⟨some 47, .fld 1 (.tmp 6), none⟩, ⟨some 48, .load false 1 (.tmp 47), none⟩, ⟨some 49, .mv (.tmp 9), none⟩, ⟨some 50, .fld
    2 (.tmp 6), none⟩, ⟨some 51, .load false 1 (.tmp 50), none⟩, ⟨some 52, .bin .add (.tmp 49) (.tmp 51), none⟩, ⟨some 53, .fld 8 (.tmp 10), none⟩, ⟨some 54, .fld 0 (.tmp 53),
    none⟩, ⟨none, .store 1 (.tmp 54) (.tmp 48), none⟩, ⟨some 55, .fld 8 (.tmp 10), none⟩, ⟨some 56, .fld 1 (.tmp 55), none⟩, ⟨none, .store 1 (.tmp 56) (.tmp 52), none⟩] [0, 1, 0, 0,
    8, 28, 3, 67, 195, 511, 1023, 2047] [0, 1, 2, 3, 4, 5, 6, 7, 8, 9, 10, 11]) (.seq (.region [⟨some 57, .fld 8 (.tmp 10), none⟩, ⟨some 58, .fld 2 (.tmp 57), none⟩, ⟨some 59, .load
    false 1 (.tmp 58), none⟩, ⟨some 60, .mv (.tmp 7), none⟩, ⟨some 61, .fld 0 (.tmp 2), none⟩, ⟨some 62, .fld 5 (.tmp 61), none⟩, ⟨some 63, .load false 1 (.tmp 62), none⟩, ⟨some 64,
    .bin .mul (.tmp 60) (.tmp 63), none⟩, ⟨some 65, .mv (.tmp 9), none⟩, ⟨some 66, .mv (.tmp 8), none⟩, ⟨some 67, .bin .sub (.tmp 65) (.tmp 66), none⟩, ⟨some 68, .fld 0 (.tmp 2),
    none⟩, ⟨some 69, .fld 4 (.tmp 68), none⟩, ⟨some 70, .load false 1 (.tmp 69), none⟩, ⟨some 71, .bin .mul (.tmp 67) (.tmp 70), none⟩, ⟨some 72, .bin .add (.tmp 64) (.tmp 71),
    none⟩, ⟨some 73, .fld 3 (.tmp 6), none⟩, ⟨some 74, .load false 1 (.tmp 73), none⟩, ⟨some 75, .bin .add (.tmp 72) (.tmp 74), none⟩, ⟨some 76, .bin .sub (.tmp 59) (.tmp 75),
    none⟩, ⟨some 77, .fld 8 (.tmp 10), none⟩, ⟨some 78, .fld 2 (.tmp 77), none⟩, ⟨none, .store 1 (.tmp 78) (.tmp 76), none⟩]) (.seq (.region [⟨some 79, .fld 8 (.tmp 10), none⟩,
    ⟨some 80, .fld 3 (.tmp 79), none⟩, ⟨some 81, .load false 1 (.tmp 80), none⟩, ⟨some 82, .fld 4 (.tmp 6), none⟩, ⟨some 83, .load false 1 (.tmp 82), none⟩, ⟨some 84, .bin .sub
    (.tmp 81) (.tmp 83), none⟩, ⟨some 85, .fld 8 (.tmp 10), none⟩, ⟨some 86, .fld 3 (.tmp 85), none⟩, ⟨none, .store 1 (.tmp 86) (.tmp 84), none⟩]) (.seq (.region [⟨some 88, .fld 8
    (.tmp 2), none⟩, ⟨some 89, .fld 4 (.tmp 88), none⟩, ⟨some 90, .load false 1 (.tmp 89), none⟩, ⟨some 91, .mv (.tmp 1), none⟩, ⟨some 92, .call (.func 266) [(.tmp 90), (.tmp 91)],
    none⟩, ⟨some 87, .mv (.tmp 92), none⟩, ⟨some 93, .ext (.tmp 87) 0, none⟩, ⟨some 94, .ext (.tmp 87) 1, none⟩, ⟨some 11, .mv (.tmp 93), none⟩, ⟨some 12, .mv (.tmp 94), none⟩])
    (.seq (.region [⟨some 95, .fld 8 (.tmp 2), none⟩, ⟨some 96, .fld 4 (.tmp 95), none⟩, ⟨some 97, .load false 1 (.tmp 96), none⟩, ⟨some 98, .call (.func 164) [(.tmp 97)], none⟩,
    ⟨some 99, .mv (.tmp 11), none⟩, ⟨some 100, .mv (.tmp 1), none⟩, ⟨some 101, .lit true 3 1 [(.tmp 100)], none⟩, ⟨some 102, .call (.func 267) [(.tmp 98), (.tmp 99), (.tmp 101)],
    none⟩, ⟨some 103, .fld 8 (.tmp 10), none⟩, ⟨some 104, .fld 4 (.tmp 103), none⟩, ⟨none, .store 1 (.tmp 104) (.tmp 102), none⟩]) (.seq (.regionD [⟨some 105, .load true 13 (.tmp
    10), none⟩, ⟨some 106, .mv (.tmp 8), none⟩, ⟨some 107, .fld 6 (.tmp 6), none⟩, ⟨some 108, .fld 1 (.tmp 107), none⟩, ⟨some 109, .load false 1 (.tmp 108), none⟩, ⟨some 110, .bin
    .leq (.tmp 106) (.tmp 109), none⟩, ⟨some 111, .call (.func 152) [(.tmp 110), (.const (.int .i64 22))], none⟩, ⟨some 112, .fld 8 (.tmp 10), none⟩, ⟨some 113, .fld 3 (.tmp 112),
    none⟩, ⟨some 114, .load false 1 (.tmp 113), none⟩, ⟨some 115, .bin .geq (.tmp 114) (.const (.int .i64 0)), none⟩, ⟨some 116, .call (.func 152) [(.tmp 115), (.const (.int .i64
    11))], none⟩, ⟨some 117, .load true 13 (.tmp 10), none⟩, ⟨some 118, .call (.func 165) [(.tmp 117)], none⟩, ⟨some 119, .call (.func 152) [(.tmp 118), (.const (.int .i64 24))],
    none⟩, ⟨some 120, .lit false 34 1 [(.tmp 111), (.tmp 116), (.tmp 119)], none⟩, ⟨some 121, .call (.func 151) [(.tmp 120)], none⟩, ⟨none, .store 13 (.tmp 4) (.tmp 105), none⟩,
    ⟨some 5, .mv (.tmp 121), none⟩] [0, 0, 0, 4, 12, 30, 62, 0, 128, 384, 896, 2046, 0, 8190, 16382, 32766, 65534, 131071, 262143] [0, 1, 2, 3, 4, 5, 6, 7, 8, 9, 10, 11, 12, 13, 14,
    15, 16, 17, 18]) .ret))))))))))))
theorem low225m : lowF Tryz.prog [2, 101] Tryz.f225 = some (122, lc225m.strip, [.cell 4 true 13, .tmp 5]) := by kernel_rfl
theorem fn225m : FnOk Tryz.prog 225 122 lc225m [.cell 4 true 13, .tmp 5] := ⟨Tryz.call225, [2, 101], _, Tryz.func225, low225m⟩
end Go.Pw
set_option linter.unusedSimpArgs false
set_option linter.unusedVariables false
set_option maxHeartbeats 2000000
namespace Go.Pw
set_option maxRecDepth 2000
open Go Go.Proofs A1 A2 A3 A4
section
variable {P : Program} {N base : Nat}
theorem OpsL.cm [m : Mix P] {dst : Option Nat} {fop : Operand} {xs : List Operand} {g : Option (Nat × Bool)} {rest : List LIns} {env : List (Nat × V)} {σ : Store} (σ0 σ1 : Store) {nx hi : Nat} {K : St → Prop} {f : FuncId} {args : List V} {v : V}
    (hc : CallD P f args σ0 nx v σ1 hi) (hs : Sub σ0 σ) (hf : evo env fop = .c (.fn f [])) (hg : guardOf env g = .run) (ha : RIs (xs.map (evo env)) args)
    (h : putK dst v env fun env' => frS (app σ0 σ1 σ) fun σ' => frNat hi fun hi' => wpOps P N base rest env' σ' hi' none K) : OpsL P N base (⟨dst, .call fop xs, g⟩ :: rest) ⟨env, σ, nx⟩ K := by
  rw [putK_eq, frS_eq, frNat_eq] at h
  exact ⟨Ops.call (i := ⟨dst, .call fop xs, g⟩) (st := ⟨env, σ, nx⟩) hg rfl hf (by simpa using ha) hc hs (Ops.wp h)⟩
end
theorem sub2 {σ : Store} {a b : Nat} {e e' : Ent} (h1 : get σ a = some e) (h2 : get σ b = some e') : Sub [(a, e), (b, e')] σ := fun id x h => by
  by_cases ha : a = id
  · subst ha; rw [get_here] at h; rw [h1]; exact h
  · rw [get_next ha] at h
    by_cases hb : b = id
    · subst hb; rw [get_here] at h; rw [h2]; exact h
    · rw [get_next hb] at h; cases h
theorem sub_nil {σ : Store} : Sub [] σ := fun id e h => by simp [get] at h
abbrev tkA (s : Si) (n : Int) : Tk := s.tk.getD n.toNat tk0
abbrev trT (s : Si) (t : St8) (p : Int) : Int := swF s.ti ((s.tr.getD t.p.toNat []).getD p.toNat 0) t.t
def nxT (s : Si) (t : St8) (T : Tk) (sw n : Int) : St8 := ⟨T.p, max (t.t + sw) T.lo + T.d, t.w - (sw * s.swim + (max (t.t + sw) T.lo - (t.t + sw)) * s.idle + T.w), t.o - T.o, insI t.d (bsI n t.d) n⟩
def nxF (s : Si) (t : St8) (T : Tk) (sw n : Int) : Int := fstE [unl (t.t + sw ≤ T.hi) 22, unl (0 ≤ (nxT s t T sw n).o) 11, unb (reB s (nxT s t T sw n)) 24]
abbrev nxS (s : Si) (t : St8) (n : Int) : St8 := nxT s t (tkA s n) (trT s t (tkA s n).p) n
abbrev nxE (s : Si) (t : St8) (n : Int) : Int := nxF s t (tkA s n) (trT s t (tkA s n).p) n
structure TkB (s : Si) (T : Tk) : Prop where
  p : 0 ≤ T.p ∧ T.p < s.ho.length
  d : isN T.d
  w : isN T.w
  o : isN T.o
  lo : isT T.lo
  hi : isT T.hi
theorem TkOk.b {s : Si} {i : Nat} (h : TkOk s i) : TkB s (s.tk.getD i tk0) := ⟨⟨h.p.1, h.q⟩, h.d, h.w, h.o, h.lo, h.hi⟩
theorem trT_bd {s : Si} {t : St8} {p : Int} (h : OnOk s t) : 0 ≤ trT s t p ∧ trT s t p ≤ 20000 := by
  have h1 := ((h.ok.r t.p.toNat (by have := h.pl; omega)).2.1) p.toNat
  have := swF_bd (a := t.t) (fun k hk => (h.ok.u k hk).1.2) h1
  simp only [trT]
  omega
theorem nxT_b {s : Si} {t : St8} {T : Tk} {sw n : Int} (h : OnOk s t) (hT : TkB s T) (hb : 0 ≤ sw ∧ sw ≤ 20000) : DvB s (nxT s t T sw n) := by
  have h2 := h.tm
  have h3 := h.en
  have h4 := h.ok.e
  have h7 := hT.lo; have h8 := hT.d; have h9 := hT.w
  have m1 := mbd (a := sw) (A := 20000) (by omega) (b := s.swim) (B := 10000) (by omega)
  have m2 := mbd (a := max (t.t + sw) T.lo - (t.t + sw)) (A := 200000) (by omega) (b := s.idle) (B := 10000) (by omega)
  refine ⟨h.ok, hT.p, ?_, ?_⟩
  · simp only [nxT]; omega
  · simp only [nxT]; omega
theorem Srt.of {l : List Int} {b : Int} (h : (ascE l b).2 = 0) : Srt l ∧ (∀ i, i < l.length → 0 ≤ l.getD i 0 ∧ l.getD i 0 ≤ b - 1) := by
  rw [ascE, eachN_ok] at h
  refine ⟨fun i hi => ?_, fun i hi => ?_⟩
  · have := h (i + 1) hi
    rw [ascN, fst2, unl0 (by decide), unl0 (by decide)] at this
    have := this.2
    rwa [lastI, if_neg (by omega), Nat.add_sub_cancel] at this
  · have := h i hi
    rw [ascN, fst2, unl0 (by decide), unl0 (by decide)] at this
    exact this.1
theorem C225 {s : Si} {t : St8} {n : Int} : (OnOk s t ∧ t.d.length ≤ 1000 ∧ 0 ≤ n ∧ n < s.tk.length) → PFD Tryz.prog 225 [div s t, vi .i64 n] (.tup [div s (nxS s t n), vi .i64 (nxE s t n)]) := fun ⟨h, hd, hn⟩ => by
  have hb := trT_bd (p := (tkA s n).p) h
  have hB := (h.ok.t n.toNat (by omega)).b
  have hN := C165 (nxT_b (n := n) h hB hb)
  have h2 := h.tm
  have h3 := h.en
  have h4 := h.ok.e
  have h11 := h.oil
  have h12 := h.pl
  have h13 := h.ok.h
  have h14 := (h.ok.r t.p.toNat (by omega)).1.2
  have h15 := h.ok.m
  have h16 := h.ok.n
  have h17 := (h.ok.r t.p.toNat (by omega)).2.1 (tkA s n).p.toNat
  have c1 := C227 (s := s) (t := t) (n := (s.tr.getD t.p.toNat []).getD (tkA s n).p.toNat 0) (a := t.t) ⟨by omega, fun k hk => (h.ok.u k hk).1.2, by omega⟩
  have c2 := C266 (l := t.d) (x := n) ⟨(Srt.of h.d).1, by omega⟩
  have hle := bsI_le n t.d
  change PFD Tryz.prog 227 _ (vi .i64 (trT s t (tkA s n).p)) at c1
  simp only [nxS, nxE, tkA] at *
  generalize hsw : trT s t (s.tk.getD n.toNat tk0).p = sw at *
  obtain ⟨b5, b6, b7, b8, b9, b10⟩ := hB
  have m1 := mbd (a := sw) (A := 20000) (by omega) (b := s.swim) (B := 10000) (by omega)
  have m2 := mbd (a := max (t.t + sw) (s.tk.getD n.toNat tk0).lo - (t.t + sw)) (A := 200000) (by omega) (b := s.idle) (B := 10000) (by omega)
  refine pi2 fn225m ?_
  (repeat' first | (refine Owe.same ?_; first | refine Owe.o ?_ | refine Owe.mk ?_ ?_) | (refine Fork.same ?_; (first | refine fkD ?_ ?_ | refine fkN ?_ ?_ | refine fkM ?_ ?_) <;> intro h) | ((first | refine OpsL.same ?_ | refine OpsDL.same ?_); first | refine pK c1 rfl rfl ?_ | refine pK c2 rfl rfl ?_) | refine MvQ.stay ?_)
  refine OpsL.cm [] _ (C164 (l := t.d) (by omega)) sub_nil rfl rfl (ris0 rfl) ?_
  (repeat' first | (refine Owe.same ?_; first | refine Owe.o ?_ | refine Owe.mk ?_ ?_) | (refine Fork.same ?_; (first | refine fkD ?_ ?_ | refine fkN ?_ ?_ | refine fkM ?_ ?_) <;> intro h) | refine MvQ.stay ?_)
  refine OpsL.cm _ [] (C267m (l := t.d) (i := bsI n t.d) (x := n) (a := 32) (b := 33) (f := fun i => r1 (t.d.getD i 0)) (g := fun i => [[D.v (Value.int IntKind.i64 n)]].getD i []) (fun _ _ => rfl) rfl (by decide) hle (by omega)) (sub2 rfl rfl) rfl rfl (ris0 rfl) ?_
  (repeat' first | (refine Owe.same ?_; first | refine Owe.o ?_ | refine Owe.mk ?_ ?_) | (refine Fork.same ?_; (first | refine fkD ?_ ?_ | refine fkN ?_ ?_ | refine fkM ?_ ?_) <;> intro h) | ((first | refine OpsL.same ?_ | refine OpsDL.same ?_); first | refine pK hN rfl rfl ?_ | refine pK C152 rfl rfl ?_ | refine pK C151 rfl rfl ?_) | refine MvQ.stay ?_)
  (refine rqK rfl ?_; (repeat' first | exact rfl | (refine qS ?_; constructor)))
abbrev nedB (s : Si) (t : St8) (n : Int) : Bool := (tkA s n).a.any fun m => !decide (m ∈ t.d)
abbrev spF (s : Si) (t : St8) (n : Int) : Int := fstE [unb (!decide (n ∈ t.d)) 23, unb (!nedB s t n) 9]
def spE (s : Si) (t : St8) (n : Int) : Int := if wi n 0 ((s.tk.length : Int) - 1) = true then (if spF s t n = 0 then nxE s t n else spF s t n) else 6
def spS (s : Si) (t : St8) (n : Int) : St8 := if wi n 0 ((s.tk.length : Int) - 1) = true then (if spF s t n = 0 then nxS s t n else t) else t
theorem C196 {s : Si} {t : St8} {n : Int} : (OnOk s t ∧ t.d.length ≤ 1000 ∧ TkSm s.tk) → PFD Tryz.prog 196 [div s t, vi .i64 n] (.tup [div s (spS s t n), vi .i64 (spE s t n)]) := fun ⟨h, hd, hs⟩ => by
  have h16 := h.ok.n
  by_cases hn : 0 ≤ n ∧ n ≤ (s.tk.length : Int) - 1
  · have hw : wi n 0 ((s.tk.length : Int) - 1) = true := decide_eq_true hn
    have c1 := C158 (g := 254) (rows := [diD s t]) (l := (tkA s n).a) (f := fun i => !decide ((tkA s n).a.getD i 0 ∈ t.d)) (fun i hi => C254 (s := s) (t := t) (by omega)) (hs n.toNat (by omega)).2
    rw [anyN_mem (p := fun m => !decide (m ∈ t.d))] at c1
    have c2 := C144 (s := s) (t := t) (n := n) (by omega)
    have c3 := C225 (s := s) (t := t) (n := n) ⟨h, hd, by omega⟩
    obtain ⟨q, hq⟩ : ∃ q, q = spE s t n := ⟨_, rfl⟩
    obtain ⟨S, hS⟩ : ∃ S, S = spS s t n := ⟨_, rfl⟩
    rw [← hq, ← hS]
    rw [spE, if_pos hw] at hq
    rw [spS, if_pos hw] at hS
    generalize hX : nxS s t n = X at *
    generalize hY : nxE s t n = Y at *
    refine pi2 fn196 ?_
    (repeat' first | (refine Owe.same ?_; first | refine Owe.o ?_ | refine Owe.mk ?_ ?_) | (refine Fork.same ?_; (first | refine fkY ?_ | refine fkF ?_ | ((first | refine fkD ?_ ?_ | refine fkN ?_ ?_ | refine fkM ?_ ?_) <;> intro h))) | ((first | refine OpsL.same ?_ | refine OpsDL.same ?_); first | refine pK C168 rfl rfl ?_ | refine pK c1 rfl rfl ?_ | refine pK c2 rfl rfl ?_ | refine pK C152 rfl rfl ?_ | refine pK C151 rfl rfl ?_) | refine MvQ.stay ?_)
    · have h : ¬ spF s t n = 0 := h
      rw [if_neg h] at hq hS
      subst hq; subst hS
      (refine rqK rfl ?_; (repeat' first | exact rfl | (refine qS ?_; constructor)))
    · have h : spF s t n = 0 := h
      rw [if_pos h] at hq hS
      subst hq; subst hS
      (repeat' first | (refine Owe.same ?_; first | refine Owe.o ?_ | refine Owe.mk ?_ ?_) | (refine Fork.same ?_; (first | refine fkD ?_ ?_ | refine fkN ?_ ?_ | refine fkM ?_ ?_) <;> intro h) | ((first | refine OpsL.same ?_ | refine OpsDL.same ?_); first | refine pK c3 rfl rfl ?_) | refine MvQ.stay ?_)
      (refine rqK rfl ?_; (repeat' first | exact rfl | (refine qS ?_; constructor)))
  · have hw : ¬ wi n 0 ((s.tk.length : Int) - 1) = true := fun hh => hn (of_decide_eq_true hh)
    rw [spE, spS, if_neg hw, if_neg hw]
    refine pi2 fn196 ?_
    (repeat' first | (refine Owe.same ?_; first | refine Owe.o ?_ | refine Owe.mk ?_ ?_) | (refine Fork.same ?_; (first | refine fkY ?_ | refine fkF ?_ | ((first | refine fkD ?_ ?_ | refine fkN ?_ ?_ | refine fkM ?_ ?_) <;> intro h))) | ((first | refine OpsL.same ?_ | refine OpsDL.same ?_); first | refine oK C168 rfl rfl rfl ?_) | refine MvQ.stay ?_)
    (refine rqK rfl ?_; (repeat' first | exact rfl | (refine qS ?_; constructor)))
abbrev st0 : St8 := ⟨0, 0, 0, 0, []⟩
abbrev sbE (s : Si) (t : St8) (n : Int) : Int := if onE s t = 0 then spE s t n else onE s t
theorem C106 {s : Si} {t : St8} {n : Int} : (SiSm s ∧ t.d.length ≤ 1000) → PFD Tryz.prog 106 [siv s, stv t, vi .i64 n] (.tup [stv (if sbE s t n = 0 then spS s t n else st0), vi .i64 (sbE s t n)]) := fun ⟨hs, hd⟩ => by
  have c1 := C156 (s := s) (t := t) ⟨hs, by omega⟩
  by_cases h0 : onE s t = 0
  · have c2 := C196 (s := s) (t := t) (n := n) ⟨OnOk.of h0, hd, hs.t⟩
    rw [show sbE s t n = spE s t n by rw [sbE, if_pos h0]]
    generalize hX : spS s t n = X at *
    generalize hY : spE s t n = Y at *
    refine pi2 fn106 ?_
    (repeat' first | (refine Owe.same ?_; first | refine Owe.o ?_ | refine Owe.mk ?_ ?_) | (refine Fork.same ?_; (first | refine fkY ?_ | refine fkF ?_ | ((first | refine fkD ?_ ?_ | refine fkN ?_ ?_ | refine fkM ?_ ?_) <;> intro h))) | ((first | refine OpsL.same ?_ | refine OpsDL.same ?_); first | refine oK c1 rfl rfl rfl ?_) | refine MvQ.stay ?_)
    (repeat' first | (refine Owe.same ?_; first | refine Owe.o ?_ | refine Owe.mk ?_ ?_) | (refine Fork.same ?_; (first | refine fkD ?_ ?_ | refine fkN ?_ ?_ | refine fkM ?_ ?_) <;> intro h) | ((first | refine OpsL.same ?_ | refine OpsDL.same ?_); first | refine pK c2 rfl rfl ?_) | refine MvQ.stay ?_)
    · rw [if_neg h]; (refine rqK rfl ?_; (repeat' first | exact rfl | (refine qS ?_; constructor)))
    · rw [if_pos h]; (refine rqK rfl ?_; (repeat' first | exact rfl | (refine qS ?_; constructor))); exact h.symm
  · rw [show sbE s t n = onE s t by rw [sbE, if_neg h0], if_neg h0]
    refine pi2 fn106 ?_
    (repeat' first | (refine Owe.same ?_; first | refine Owe.o ?_ | refine Owe.mk ?_ ?_) | (refine Fork.same ?_; (first | refine fkY ?_ | refine fkF ?_ | ((first | refine fkD ?_ ?_ | refine fkN ?_ ?_ | refine fkM ?_ ?_) <;> intro h))) | ((first | refine OpsL.same ?_ | refine OpsDL.same ?_); first | refine oK c1 rfl rfl rfl ?_) | refine MvQ.stay ?_)
    (refine rqK rfl ?_; (repeat' first | exact rfl | (refine qS ?_; constructor)))
end Go.Pw
set_option linter.unusedVariables false
set_option maxHeartbeats 2000000
set_option maxRecDepth 100000
namespace Go.Pw
open Go Go.Proofs
def lc263m : LCode :=
  (.seq (.region [⟨some 5, .boxS (.tmp 0), none⟩, ⟨some 7, .mv (.const (.bool false)), none⟩]) (.seq (.seq (.region [⟨some 11, .load false 1 (.tmp 2), none⟩, ⟨some 12, .mv (.tmp 1),
    none⟩, ⟨some 13, .call (.tmp 11) [(.tmp 12)], none⟩, ⟨some 14, .un .not (.tmp 13), none⟩]) (.cond (.tmp 14) (.seq (.region [⟨some 7, .mv (.const (.bool false)), none⟩]) .ret)
    .skip)) (.seq (.seq (.region [⟨some 15, .fld 0 (.tmp 5), none⟩, ⟨some 16, .fld 0 (.tmp 15), none⟩, ⟨some 17, .load false 1 (.tmp 16), none⟩, ⟨some 18, .len (.tmp 17), none⟩,
    ⟨some 19, .mv (.const (.int .i64 0)), none⟩]) (.block 0 (.loop (.seq (.region [⟨some 20, .bin .lss (.tmp 19) (.tmp 18), none⟩]) (.seq (.cond (.tmp 20) .skip (.exit 0)) (.seq
    (.block 1 (.seq (.region [⟨some 21, .mv (.tmp 19), none⟩, ⟨some 8, .mv (.tmp 21), none⟩]) (.seq (.seq (.region [⟨some 22, .load false 1 (.tmp 3), none⟩, ⟨some 23, .mv (.tmp 8),
    none⟩, ⟨some 24, .call (.tmp 22) [(.tmp 23)], none⟩, ⟨some 25, .un .not (.tmp 24), none⟩]) (.cond (.tmp 25) (.exit 1) .skip)) (.seq (.region [⟨some 27, .load true 13 (.tmp 5),
    none⟩, ⟨some 28, .mv (.tmp 8), none⟩, ⟨some 29, .call (.func 196) [(.tmp 27), (.tmp 28)], none⟩, ⟨some 26, .mv (.tmp 29), none⟩, ⟨some 30, .ext (.tmp 26) 0, none⟩, ⟨some 31,
    .ext (.tmp 26) 1, none⟩, ⟨some 9, .alloc [(.slice none 0 0), (.slice none 0 0), (.slice none 0 0), (.slice none 0 0), (.int .i64 0), (.int .i64 0), (.int .i64 0), (.int .i64 0),
    (.int .i64 0), (.int .i64 0), (.int .i64 0), (.int .i64 0), (.slice none 0 0)], none⟩, ⟨none, .store 13 (.tmp 9) (.tmp 30), none⟩, ⟨some 10, .mv (.tmp 31), none⟩]) (.seq
    (.regionD [⟨some 32, .mv (.tmp 10), none⟩, ⟨some 33, .bin .eql (.tmp 32) (.const (.int .i64 0)), none⟩, ⟨some 34, .mv (.tmp 33), none⟩, ⟨some 35, .load false 1 (.tmp 4), some
    (34, true)⟩, ⟨some 36, .load true 13 (.tmp 9), some (34, true)⟩, ⟨some 37, .mv (.tmp 1), some (34, true)⟩, ⟨some 38, .call (.func 264) [(.tmp 37)], some (34, true)⟩, ⟨some 39,
    .mv (.tmp 8), some (34, true)⟩, ⟨some 40, .lit false 3 1 [(.tmp 39)], some (34, true)⟩, ⟨some 41, .append false 3 1 8 (.tmp 38) (.tmp 40), some (34, true)⟩, ⟨some 42, .call
    (.tmp 35) [(.tmp 36), (.tmp 41)], some (34, true)⟩, ⟨some 43, .un .not (.tmp 42), some (34, true)⟩, ⟨some 44, .pick (.tmp 34) (.tmp 43) (.const (.bool false)), none⟩] [0, 1, 3,
    7, 7, 7, 39, 7, 135, 487, 1023, 2047, 4095] [0, 1, 2, 3, 4, 5, 6, 7, 8, 9, 10, 11, 12]) (.cond (.tmp 44) (.seq (.region [⟨some 7, .mv (.const (.bool false)), none⟩]) .ret)
    .skip)))))) (.region [⟨some 45, .bin .add (.tmp 19) (.const (.int .i64 1)), none⟩, ⟨some 19, .mv (.tmp 45), none⟩]))))))) (.seq (.region [⟨some 7, .mv (.const (.bool true)),
    none⟩]) .ret))))
theorem low263m : lowF Tryz.prog [5] Tryz.f263 = some (46, lc263m.strip, [.tmp 7]) := by kernel_rfl
theorem fn263m : FnOk Tryz.prog 263 46 lc263m [.tmp 7] := ⟨Tryz.call263, [5], _, Tryz.func263, low263m⟩
end Go.Pw
set_option linter.unusedSimpArgs false
set_option linter.unusedVariables false
set_option maxHeartbeats 2000000
namespace Go.Pw
set_option maxRecDepth 2000
open Go Go.Proofs A1 A2 A3 A4
open Go.RowKit
theorem CallD.at {P : Program} {f : FuncId} {args : List V} {σ σ' : Store} {v : V} {n : Nat} (h : CallD P f args σ n v σ' n) (nx : Nat) : CallD P f args σ nx v σ' nx := by
  refine ⟨h.1, Nat.le_refl _, fun Γ w us hst _ hr => ?_⟩
  refine (h.2.2 Γ w us hst (fun id h1 h2 => absurd h2 (by omega)) hr).mono (fun e w' ⟨u, Γ', h1, h2, h3, h4, h5, h6⟩ => ⟨u, Γ', h1, h2, h3, h4, fun id _ => h5 id (by omega), h6⟩)
theorem C164d {l : List Int} (hl : l.length ≤ 1000000) : PFD Tryz.prog 164 [.c (ints l)] (.c (ints l)) := by
  obtain ⟨hent, _⟩ := fn164
  refine ⟨hent, Nat.le_refl _, fun Γ w us hst hno hr => ?_⟩
  have key : ∀ v' w', w'.ownsRow w.heap.size 3 1 v' l.length (vsI l) → v' ≠ .slice none 0 0 → Below w.heap.size w w' → ∃ Γ', RepV Γ' w' (.c (ints l)) v' ∧ StoreOk Γ' w' [] ∧ CxLe Γ Γ' ∧ (∀ id, ¬ (0 ≤ id ∧ id < 0) → Γ'.ρ id = Γ.ρ id ∧ Γ'.κ id = Γ.κ id) ∧ Ext 0 Γ w [] Γ' w' [] := fun v' w' hown hnil hB => by
    obtain ⟨_, ⟨h, _⟩ | ⟨g, cap, cur, rfl, hg, hh, hn, hc, hs, ht⟩⟩ := hown
    · exact absurd h hnil
    · obtain ⟨u, Γ', h1, h2⟩ := shut_post (w' := w') (nx := 0) (ys := l) (B := g) (cap := cap) hst (.inr hg) (Array.getElem?_eq_some_iff.1 hh).1 hn (fun j hj => by
        have h1 := vsI_at hj
        rw [← ht, List.getElem?_take, Nat.mul_one, if_pos hj] at h1
        rw [cell_row hh]; simpa using h1) hB.os hB.tape hB.output hB.size (fun k hk _ => hB.block k hk)
      simp only [Ending.returned.injEq] at h1
      subst h1
      exact ⟨Γ', h2⟩
  obtain ⟨us⟩ := us
  obtain ⟨u0, rfl⟩ : ∃ u0, us = [u0] := by
    have := hr.1
    match us, this with
    | [u0], _ => exact ⟨_, rfl⟩
  have q0 := hr.2 0 _ u0 rfl rfl
  cases q0 with | c _ u h =>
  have h : RepD Γ.I w (.sl 1 l.length fun i => r1 (l.getD i 0)) u0 := h
  generalize hd : D.sl 1 l.length (fun i => r1 (l.getD i 0)) = d at h
  cases h with
  | v x h => cases hd
  | slE s f A c =>
    simp only [D.sl.injEq] at hd
    obtain ⟨_, h0, _⟩ := hd
    obtain rfl := List.length_eq_zero_iff.1 h0
    cases A with
    | none =>
      refine (Any.slices_Clone_int_nil kloL 0 c w).mono fun e w' ⟨he, hw⟩ => ?_
      subst hw
      exact ⟨_, Γ, he, .c _ _ (.slE _ _ _ _), hst, CxLe.refl _, fun _ _ => ⟨rfl, rfl⟩, Ext.refl _ _ _ _⟩
    | some a =>
      refine (Any.slices_Clone_int_zero kloL a c w).mono fun e w' ⟨v', he, hown, hnil, hB⟩ => ?_
      obtain ⟨Γ', h1⟩ := key _ _ hown hnil hB
      exact ⟨_, Γ', he, h1⟩
  | sl s n f ad c U hn hI hs hc hr' =>
    simp only [D.sl.injEq] at hd
    obtain ⟨rfl, rfl, rfl⟩ := hd
    have hcell : ∀ j, j < l.length → w.cell? (ad.add j) = some (.int .i64 (l.getD j 0)) := fun j hj => by
      have h1 := hc j 0 (dI (l.getD j 0)) hj rfl
      have h2 := hr' j 0 (dI (l.getD j 0)) hj rfl
      rw [Nat.mul_one, Nat.add_zero] at h1
      rw [h1]
      generalize U j 0 = u at h2
      cases h2; rfl
    rcases Nat.eq_zero_or_pos l.length with h0 | h0
    · obtain rfl := List.length_eq_zero_iff.1 h0
      refine (Any.slices_Clone_int_zero kloL ad c w).mono fun e w' ⟨v', he, hown, hnil, hB⟩ => ?_
      obtain ⟨Γ', h1⟩ := key _ _ hown hnil hB
      exact ⟨_, Γ', he, h1⟩
    · obtain ⟨b, off, sp⟩ := ad
      have hsp : sp = none := by
        have := hcell 0 h0
        rw [add_zero] at this
        cases sp with
        | none => rfl
        | some x =>
          simp only [World.cell?] at this
          split at this <;> simp at this
      subst hsp
      refine (Any.slices_Clone_int kloL b off l.length c l w (Nat.le_refl _) (by omega) (fun j hj => by have := hcell j hj; rwa [Addr.add_lit] at this)).mono fun e w' ⟨v', he, hown, hnil, hB⟩ => ?_
      rw [List.take_of_length_le (Nat.le_refl _)] at hown
      obtain ⟨Γ', h1⟩ := key _ _ hown hnil hB
      exact ⟨_, Γ', he, h1⟩
theorem C264 {l : List Int} : l.length ≤ 1000000 → PFD Tryz.prog 264 [.c (ints l)] (.c (.cl 1 l.length fun i => r1 (l.getD i 0))) := fun hl => by
  refine pi1 fn264 ?_
  (repeat' first | (refine Owe.same ?_; first | refine Owe.o ?_ | refine Owe.mk ?_ ?_) | (refine Fork.same ?_; (first | refine fkD ?_ ?_ | refine fkN ?_ ?_ | refine fkM ?_ ?_) <;> intro h) | refine MvQ.stay ?_)
  (refine rqK rfl ?_; (repeat' first | exact rfl | (refine qS ?_; constructor)))
theorem C143 {n : Int} : PFD Tryz.prog 143 [vi .i64 n] (vbl true) := by
  refine pi1 fn143 ?_
  (repeat' first | (refine Owe.same ?_; first | refine Owe.o ?_ | refine Owe.mk ?_ ?_) | (refine Fork.same ?_; (first | refine fkD ?_ ?_ | refine fkN ?_ ?_ | refine fkM ?_ ?_) <;> intro h) | refine MvQ.stay ?_)
  (refine rqK rfl ?_; (repeat' first | exact rfl | (refine qS ?_; constructor)))
def vaP (s : Si) (l : List Int) : Nat → Int
  | 0 => 0
  | k + 1 => vaP s l k + (tkA s (l.getD k 0)).v
abbrev vaI (s : Si) (l : List Int) : Int := vaP s l l.length
abbrev tkNs (s : Si) (l : List Int) : Prop := ∀ k, k < l.length → 0 ≤ l.getD k 0 ∧ l.getD k 0 < s.tk.length
theorem vaP_bd {s : Si} {l : List Int} (h : SiOk s) (hl : tkNs s l) : ∀ k, k ≤ l.length → 0 ≤ vaP s l k ∧ vaP s l k ≤ k * 10000
  | 0, _ => ⟨Int.le_refl _, Int.le_refl _⟩
  | k + 1, hk => by
    have ih := vaP_bd h hl k (by omega)
    have h1 := hl k (by omega)
    have h2 := (h.t (l.getD k 0).toNat (by omega)).v
    rw [vaP]
    simp only [tkA]
    omega
theorem C163 {s : Si} {l : List Int} : (SiOk s ∧ tkNs s l ∧ l.length ≤ 1000) → PFD Tryz.prog 163 [siv s, .c (ints l)] (vi .i64 (vaI s l)) := fun ⟨h, hl, hn⟩ => by
  have h6 := h.n
  refine pi1 fn163 ?_
  (repeat' first | (refine Owe.same ?_; first | refine Owe.o ?_ | refine Owe.mk ?_ ?_) | (refine Fork.same ?_; (first | refine fkD ?_ ?_ | refine fkN ?_ ?_ | refine fkM ?_ ?_) <;> intro h) | refine MvQ.stay ?_)
  refine Sat.lp0 (fun k : Nat => [(10, vi .i64 k), (9, vi .i64 l.length), (8, .c (ints l)), (2, .c (.rp (siD s))), (5, vi .i64 (vaP s l k))]) (fun k => k ≤ l.length) (fun k => l.length - k) 0 (Nat.zero_le _) (by ((first | refine qen ?_ | refine qvs ?_ | refine qeq ?_ | refine qst ?_ | refine qv ?_ | refine qc ?_ | refine qe ?_ | refine qcs ?_ | skip); (repeat' first | exact rfl | (refine qS ?_; constructor)))) ?_
  intro k hk
  have hb := vaP_bd h hl k hk
  refine Fork.dec (fun hlt => ?_) (fun hlt => ?_)
  · have hlt : k < l.length := by omega
    have h1 := hl k hlt
    have h2 := (h.t (l.getD k 0).toNat (by omega)).v
    (repeat' first | (refine Owe.same ?_; first | refine Owe.o ?_ | refine Owe.mk ?_ ?_) | (refine Fork.same ?_; (first | refine fkD ?_ ?_ | refine fkN ?_ ?_ | refine fkM ?_ ?_) <;> intro h) | refine MvQ.stay ?_)
    exact again0 (k + 1) hlt (by omega) (by ((first | refine qen ?_ | refine qvs ?_ | refine qeq ?_ | refine qst ?_ | refine qv ?_ | refine qc ?_ | refine qe ?_ | refine qcs ?_ | skip); (repeat' first | exact rfl | (refine qS ?_; constructor))))
  · obtain rfl : k = l.length := by omega
    (repeat' first | (refine Owe.same ?_; first | refine Owe.o ?_ | refine Owe.mk ?_ ?_) | (refine Fork.same ?_; (first | refine fkD ?_ ?_ | refine fkN ?_ ?_ | refine fkM ?_ ?_) <;> intro h) | refine MvQ.stay ?_)
    (refine rqK rfl ?_; (repeat' first | exact rfl | (refine qS ?_; constructor)))
def orE (s : Si) (t : St8) : Int := if onE s t = 0 then (if reB s t = true then 0 else 24) else onE s t
theorem C141 {s : Si} {t : St8} : (SiSm s ∧ t.d.length ≤ 1000000) → PFD Tryz.prog 141 [siv s, stv t] (.tup [div s t, vi .i64 (orE s t)]) := fun hs => by
  have c1 := C156 hs
  obtain ⟨q, hq⟩ : ∃ q, q = orE s t := ⟨_, rfl⟩
  rw [← hq]
  rw [orE] at hq
  by_cases h0 : onE s t = 0
  · have c2 := C165 (OnOk.of h0).b
    rw [if_pos h0] at hq
    generalize reB s t = r at *
    refine pi2 fn141 ?_
    (repeat' first | (refine Owe.same ?_; first | refine Owe.o ?_ | refine Owe.mk ?_ ?_) | (refine Fork.same ?_; (first | refine fkD ?_ ?_ | refine fkN ?_ ?_ | refine fkM ?_ ?_) <;> intro h) | ((first | refine OpsL.same ?_ | refine OpsDL.same ?_); first | refine pK c1 rfl rfl ?_ | refine pK c2 rfl rfl ?_) | refine MvQ.stay ?_)
    · have h : r = false := by simpa using h
      subst h
      subst hq
      (refine rqK rfl ?_; (repeat' first | exact rfl | (refine qS ?_; constructor)))
    · have h : r = true := by simpa using h
      subst h
      subst hq
      (refine rqK rfl ?_; (repeat' first | exact rfl | (refine qS ?_; constructor)))
      exact h0
    · exact absurd h0 h
  · rw [if_neg h0] at hq
    subst hq
    refine pi2 fn141 ?_
    (repeat' first | (refine Owe.same ?_; first | refine Owe.o ?_ | refine Owe.mk ?_ ?_) | (refine Fork.same ?_; (first | refine fkD ?_ ?_ | refine fkN ?_ ?_ | refine fkM ?_ ?_) <;> intro h) | ((first | refine OpsL.same ?_ | refine OpsDL.same ?_); first | refine pK c1 rfl rfl ?_) | refine MvQ.stay ?_)
    all_goals first
      | exact absurd ‹onE s t = 0› h0
      | (refine rqK rfl ?_; (repeat' first | exact rfl | (refine qS ?_; constructor)))
end Go.Pw
set_option linter.unusedSimpArgs false
set_option linter.unusedVariables false
set_option maxHeartbeats 4000000
namespace Go.Pw
set_option maxRecDepth 2000
open Go Go.Proofs A1 A2 A3 A4
def updP (s : Si) (p : List Int) (b : List Int × Int) : List Int × Int := if b.2 < vaI s p then (p, vaI s p) else b
mutual
/-- The best plan of those that begin with a plan, so many further tasks at most. -/
def grwF (s : Si) : Nat → St8 → List Int → List Int × Int → List Int × Int
  | 0, _, p, b => updP s p b
  | f + 1, t, p, b => grwK s f t p (updP s p b) s.tk.length
/-- .. of which the next task is one of the first ones. -/
def grwK (s : Si) (f : Nat) (t : St8) (p : List Int) (b : List Int × Int) : Nat → List Int × Int
  | 0 => b
  | k + 1 => if spE s t k = 0 then grwF s f (spS s t k) (p ++ [(k : Int)]) (grwK s f t p b k) else grwK s f t p b k
end
section
variable {P : Program} {N base : Nat}
theorem OpsDL.cm [m : Mix P] {M : List Nat} {acc : List (Bool × List Nat)} {dst : Option Nat} {fop : Operand} {xs : List Operand} {g : Option (Nat × Bool)} {rest : List LIns} {env : List (Nat × V)} {σ : Store} (σ0 σ1 : Store) {nx hi : Nat} {K : St → Prop} {f : FuncId} {ids : List Nat} {args : List V} {v : V}
    (hc : CallD P f args σ0 nx v σ1 hi) (hs : Sub σ0 σ) (hf : evo env fop = .c (.fn f ids)) (hg : guardOf env g = .run) (ha : RIs (xs.map (evo env) ++ ids.map fun k => .c (.bp k 0)) args)
    (h : putK dst v env fun env' => frS (app σ0 σ1 σ) fun σ' => frNat hi fun hi' => wpD P N base M rest env' σ' hi' none ((false, dom σ0 ++ dom σ1) :: acc) K) : OpsDL P N base M (⟨dst, .call fop xs, g⟩ :: rest) ⟨env, σ, nx⟩ acc K := by
  rw [putK_eq, frS_eq, frNat_eq] at h
  exact ⟨OpsD.call (k := 0) (ks := []) (i := ⟨dst, .call fop xs, g⟩) (st := ⟨env, σ, nx⟩) hg rfl hf ha hc hs (OpsD.wp h)⟩
theorem OpsL.cmi [m : Mix P] {dst : Option Nat} {fop : Operand} {xs : List Operand} {g : Option (Nat × Bool)} {rest : List LIns} {env : List (Nat × V)} {σ : Store} (σ0 σ1 : Store) {nx hi : Nat} {K : St → Prop} {f : FuncId} {ids : List Nat} {args : List V} {v : V}
    (hc : CallD P f args σ0 nx v σ1 hi) (hs : Sub σ0 σ) (hf : evo env fop = .c (.fn f ids)) (hg : guardOf env g = .run) (ha : RIs (xs.map (evo env) ++ ids.map fun k => .c (.bp k 0)) args)
    (h : putK dst v env fun env' => frS (app σ0 σ1 σ) fun σ' => frNat hi fun hi' => wpOps P N base rest env' σ' hi' none K) : OpsL P N base (⟨dst, .call fop xs, g⟩ :: rest) ⟨env, σ, nx⟩ K := by
  rw [putK_eq, frS_eq, frNat_eq] at h
  exact ⟨Ops.call (i := ⟨dst, .call fop xs, g⟩) (st := ⟨env, σ, nx⟩) hg rfl hf ha hc hs (Ops.wp h)⟩
end
theorem sub_cons {σ τ : Store} {a : Nat} {e : Ent} (h1 : get σ a = some e) (h2 : Sub τ σ) : Sub ((a, e) :: τ) σ := fun id x h => by
  by_cases ha : a = id
  · subst ha; rw [get_here] at h; rw [h1]; exact h
  · rw [get_next ha] at h; exact h2 id x h
abbrev gsto (s : Si) (t0 : St8) (b : List Int × Int) : Store :=
  [(6, .box [.fn 263 [5, 3, 6]]), (5, .box [.yd 4]), (4, .lp [(2, .c (.rp (diD s t0))), (6, .c (.bp 0 0)), (7, .c (.bp 1 0)), (12, .c (.fn 262 [3, 2]))] .ready none (RR Tryz.prog 26 [13] ra142 rb142)), (3, .box [.fn 143 []]), (1, .box [int b.2]), (0, .box [ints b.1])]
theorem tkNs_app {s : Si} {p : List Int} {n : Int} (hp : tkNs s p) (hn : 0 ≤ n ∧ n < s.tk.length) : tkNs s (p ++ [n]) := fun k hk => by
  rw [List.length_append] at hk
  have hk : k < p.length + 1 := hk
  rcases Nat.lt_or_ge k p.length with h | h
  · rw [List.getD_eq_getElem?_getD, List.getElem?_append_left h, ← List.getD_eq_getElem?_getD]; exact hp k h
  · obtain rfl : k = p.length := by omega
    rw [List.getD_eq_getElem?_getD, List.getElem?_append_right (Nat.le_refl _), Nat.sub_self]; exact hn
theorem G120 {s : Si} {t0 : St8} (hO : SiOk s) (hs : TkSm s.tk) (hst : ∀ {t : St8} {k : Nat}, OnOk s t → spE s t k = 0 → OnOk s (spS s t k) ∧ (spS s t k).d.length = t.d.length + 1) (hd : ∀ {t : St8}, OnOk s t → t.d.length ≤ s.tk.length) :
    ∀ (f : Nat) (t : St8) (p : List Int) (b : List Int × Int), OnOk s t → s.tk.length + 1 ≤ f + t.d.length → tkNs s p → p.length + s.tk.length ≤ 100 + t.d.length →
      CallD Tryz.prog 263 [div s t, .c (ints p), .c (.bp 5 0), .c (.bp 3 0), .c (.bp 6 0)] (gsto s t0 b) 7 (.c .tru) (gsto s t0 (grwF s f t p b)) 7
  | 0, t, p, b, h, hf, _, _ => by have := hd h; omega
  | f + 1, t, p, b, h, hf, hp, hl => by
    have h6 := hO.n
    have hdl := hd h
    have HO := h
    have c1 := C163 (s := s) (l := p) ⟨hO, hp, by omega⟩
    refine CallD.of (vs := [.c .tru]) fn263m rfl rfl (by (refine qis ?_ ?_ <;> (repeat' first | exact rfl | (refine qS ?_; constructor)))) ?_
    refine Ops.yd rfl rfl rfl rfl rfl ?_
    (repeat' first | (refine Owe.same ?_; first | refine Owe.o ?_ | refine Owe.mk ?_ ?_) | (refine Fork.same ?_; (first | refine fkD ?_ ?_ | refine fkN ?_ ?_ | refine fkM ?_ ?_) <;> intro h) | refine MvQ.stay ?_)
    refine And.intro rfl (Exists.intro _ (And.intro rfl ?_))
    (repeat' first | (refine Owe.same ?_; first | refine Owe.o ?_ | refine Owe.mk ?_ ?_) | (refine Fork.same ?_; (first | refine fkD ?_ ?_ | refine fkN ?_ ?_ | refine fkM ?_ ?_) <;> intro h) | ((first | refine OpsL.same ?_ | refine OpsDL.same ?_); first | refine pK c1 rfl rfl ?_ | refine pK (C164d (l := p) (by omega)) rfl rfl ?_) | refine MvQ.stay ?_)
    · rename_i h0
      have e : updP s p b = (p, vaI s p) := if_pos h
      refine Exists.intro _ (Exists.intro _ (Exists.intro _ (And.intro rfl ?_)))
      (repeat' first | (refine Owe.same ?_; first | refine Owe.o ?_ | refine Owe.mk ?_ ?_) | (refine Fork.same ?_; (first | refine fkD ?_ ?_ | refine fkN ?_ ?_ | refine fkM ?_ ?_) <;> intro h) | refine MvQ.stay ?_)
      refine Sat.lp (fun ((k, B) : Nat × List Int × Int) => ⟨[(19, vi .i64 k), (18, vi .i64 s.tk.length), (5, .c (.rp (diD s t))), (1, .c (ints p)), (2, .c (.bp 5 0)), (3, .c (.bp 3 0)), (4, .c (.bp 6 0))], gsto s t0 B, 7⟩) (fun ((k, B) : Nat × List Int × Int) => k ≤ s.tk.length ∧ B = grwK s f t p (p, vaI s p) k) (fun ((k, _) : Nat × List Int × Int) => s.tk.length - k) (0, (p, vaI s p)) [] ⟨Nat.zero_le _, by rw [grwK]⟩ ?_ ?_
      · (refine qis ?_ ?_ <;> (repeat' first | exact rfl | (refine qS ?_; constructor)))
      · intro ⟨k, B⟩ ⟨hk, hB⟩
        refine Fork.dec (fun hlt => ?_) (fun hlt => ?_)
        · have hlt : k < s.tk.length := by omega
          have c2 := C196 (s := s) (t := t) (n := (k : Int)) ⟨HO, by omega, hs⟩
          obtain ⟨E, hE⟩ : ∃ E, E = spE s t (k : Int) := ⟨_, rfl⟩
          rw [← hE] at c2
          have c3 := C264 (l := p) (by omega)
          (repeat' first | (refine Owe.same ?_; first | refine Owe.o ?_ | refine Owe.mk ?_ ?_) | (refine Fork.same ?_; (first | refine fkD ?_ ?_ | refine fkN ?_ ?_ | refine fkM ?_ ?_) <;> intro h) | ((first | refine OpsL.same ?_ | refine OpsDL.same ?_); first | refine pK C143 rfl rfl ?_ | refine pK c2 rfl rfl ?_ | refine pK c3 rfl rfl ?_) | refine MvQ.stay ?_)
          · exact absurd h (by decide)
          · have hz : spE s t (k : Int) = 0 := hE.symm.trans h
            have h1 := hst HO hz
            have h2 : tkNs s (p ++ [(k : Int)]) := tkNs_app hp ⟨by omega, by omega⟩
            refine OpsDL.cm (gsto s t0 B) _ ((G120 hO hs hst hd f (spS s t k) (p ++ [(k : Int)]) B h1.1 (by omega) h2 (by rw [List.length_append]; show p.length + 1 + _ ≤ _; omega)).at _) (sub_cons rfl (sub_cons rfl (sub_cons rfl (sub_cons rfl (sub_cons rfl (sub_cons rfl sub_nil)))))) rfl rfl ?_ ?_
            · refine VEqs.ris (qvs ?_)
              (repeat' first | exact rfl | (refine qS ?_; constructor))
              exact ⟨_, rfl, rfl⟩
            · (repeat' first | (refine Owe.same ?_; first | refine Owe.o ?_ | refine Owe.mk ?_ ?_) | (refine Fork.same ?_; (first | refine fkD ?_ ?_ | refine fkN ?_ ?_ | refine fkM ?_ ?_) <;> intro h) | refine MvQ.stay ?_)
              have hB2 : grwF s f (spS s t k) (p ++ [(k : Int)]) B = grwK s f t p (p, vaI s p) (k + 1) := by rw [grwK, if_pos hz, ← hB]
              refine again (k + 1, _) [] ⟨hlt, hB2⟩ (by show s.tk.length - (k + 1) < s.tk.length - k; omega) ?_
              (refine qis ?_ ?_ <;> (repeat' first | exact rfl | (refine qS ?_; constructor)))
          · have hB2 : B = grwK s f t p (p, vaI s p) (k + 1) := by rw [grwK, if_neg (fun hh => h (hE.trans hh)), ← hB]
            refine again (k + 1, B) [] ⟨hlt, hB2⟩ (by show s.tk.length - (k + 1) < s.tk.length - k; omega) ?_
            (refine qis ?_ ?_ <;> (repeat' first | exact rfl | (refine qS ?_; constructor)))
        · have hkk : k = s.tk.length := by omega
          have hfin : grwF s (f + 1) t p b = B := by rw [grwF, e, ← hkk, hB]
          rw [hfin]
          (repeat' first | (refine Owe.same ?_; first | refine Owe.o ?_ | refine Owe.mk ?_ ?_) | (refine Fork.same ?_; (first | refine fkD ?_ ?_ | refine fkN ?_ ?_ | refine fkM ?_ ?_) <;> intro h) | refine MvQ.stay ?_)
          exact RetQ.is rfl
    · have e : updP s p b = b := if_neg h
      refine Exists.intro _ (Exists.intro _ (Exists.intro _ (And.intro rfl ?_)))
      (repeat' first | (refine Owe.same ?_; first | refine Owe.o ?_ | refine Owe.mk ?_ ?_) | (refine Fork.same ?_; (first | refine fkD ?_ ?_ | refine fkN ?_ ?_ | refine fkM ?_ ?_) <;> intro h) | refine MvQ.stay ?_)
      refine Sat.lp (fun ((k, B) : Nat × List Int × Int) => ⟨[(19, vi .i64 k), (18, vi .i64 s.tk.length), (5, .c (.rp (diD s t))), (1, .c (ints p)), (2, .c (.bp 5 0)), (3, .c (.bp 3 0)), (4, .c (.bp 6 0))], gsto s t0 B, 7⟩) (fun ((k, B) : Nat × List Int × Int) => k ≤ s.tk.length ∧ B = grwK s f t p b k) (fun ((k, _) : Nat × List Int × Int) => s.tk.length - k) (0, b) [] ⟨Nat.zero_le _, by rw [grwK]⟩ ?_ ?_
      · (refine qis ?_ ?_ <;> (repeat' first | exact rfl | (refine qS ?_; constructor)))
      · intro ⟨k, B⟩ ⟨hk, hB⟩
        refine Fork.dec (fun hlt => ?_) (fun hlt => ?_)
        · have hlt : k < s.tk.length := by omega
          have c2 := C196 (s := s) (t := t) (n := (k : Int)) ⟨HO, by omega, hs⟩
          obtain ⟨E, hE⟩ : ∃ E, E = spE s t (k : Int) := ⟨_, rfl⟩
          rw [← hE] at c2
          have c3 := C264 (l := p) (by omega)
          (repeat' first | (refine Owe.same ?_; first | refine Owe.o ?_ | refine Owe.mk ?_ ?_) | (refine Fork.same ?_; (first | refine fkD ?_ ?_ | refine fkN ?_ ?_ | refine fkM ?_ ?_) <;> intro h) | ((first | refine OpsL.same ?_ | refine OpsDL.same ?_); first | refine pK C143 rfl rfl ?_ | refine pK c2 rfl rfl ?_ | refine pK c3 rfl rfl ?_) | refine MvQ.stay ?_)
          · exact absurd h (by decide)
          · have hz : spE s t (k : Int) = 0 := hE.symm.trans h
            have h1 := hst HO hz
            have h2 : tkNs s (p ++ [(k : Int)]) := tkNs_app hp ⟨by omega, by omega⟩
            refine OpsDL.cm (gsto s t0 B) _ ((G120 hO hs hst hd f (spS s t k) (p ++ [(k : Int)]) B h1.1 (by omega) h2 (by rw [List.length_append]; show p.length + 1 + _ ≤ _; omega)).at _) (sub_cons rfl (sub_cons rfl (sub_cons rfl (sub_cons rfl (sub_cons rfl (sub_cons rfl sub_nil)))))) rfl rfl ?_ ?_
            · refine VEqs.ris (qvs ?_)
              (repeat' first | exact rfl | (refine qS ?_; constructor))
              exact ⟨_, rfl, rfl⟩
            · (repeat' first | (refine Owe.same ?_; first | refine Owe.o ?_ | refine Owe.mk ?_ ?_) | (refine Fork.same ?_; (first | refine fkD ?_ ?_ | refine fkN ?_ ?_ | refine fkM ?_ ?_) <;> intro h) | refine MvQ.stay ?_)
              have hB2 : grwF s f (spS s t k) (p ++ [(k : Int)]) B = grwK s f t p b (k + 1) := by rw [grwK, if_pos hz, ← hB]
              refine again (k + 1, _) [] ⟨hlt, hB2⟩ (by show s.tk.length - (k + 1) < s.tk.length - k; omega) ?_
              (refine qis ?_ ?_ <;> (repeat' first | exact rfl | (refine qS ?_; constructor)))
          · have hB2 : B = grwK s f t p b (k + 1) := by rw [grwK, if_neg (fun hh => h (hE.trans hh)), ← hB]
            refine again (k + 1, B) [] ⟨hlt, hB2⟩ (by show s.tk.length - (k + 1) < s.tk.length - k; omega) ?_
            (refine qis ?_ ?_ <;> (repeat' first | exact rfl | (refine qS ?_; constructor)))
        · have hkk : k = s.tk.length := by omega
          have hfin : grwF s (f + 1) t p b = B := by rw [grwF, e, ← hkk, hB]
          rw [hfin]
          (repeat' first | (refine Owe.same ?_; first | refine Owe.o ?_ | refine Owe.mk ?_ ?_) | (refine Fork.same ?_; (first | refine fkD ?_ ?_ | refine fkN ?_ ?_ | refine fkM ?_ ?_) <;> intro h) | refine MvQ.stay ?_)
          exact RetQ.is rfl
theorem Srt.ge {l : List Int} (h : Srt l) (h0 : ∀ i, i < l.length → 0 ≤ l.getD i 0) : ∀ i, i < l.length → (i : Int) ≤ l.getD i 0
  | 0, hi => h0 0 hi
  | i + 1, hi => by
    have := Srt.ge h h0 i (by omega)
    have := h i hi
    omega
theorem OnOk.dl {s : Si} {t : St8} (h : OnOk s t) : t.d.length ≤ s.tk.length := by
  obtain ⟨h1, h2⟩ := Srt.of h.d
  rcases Nat.eq_zero_or_pos t.d.length with h0 | h0
  · omega
  · have := h1.ge (fun i hi => (h2 i hi).1) (t.d.length - 1) (by omega)
    have := (h2 (t.d.length - 1) (by omega)).2
    omega
theorem Srt.to {l : List Int} {b : Int} (h : Srt l) (h2 : ∀ i, i < l.length → 0 ≤ l.getD i 0 ∧ l.getD i 0 ≤ b - 1) : (ascE l b).2 = 0 := by
  rw [ascE, eachN_ok]
  intro i hi
  rw [ascN, fst2, unl0 (by decide), unl0 (by decide)]
  refine ⟨h2 i hi, ?_⟩
  rw [lastI]
  split
  · have := (h2 i hi).1; omega
  · have := h (i - 1) (by omega)
    rwa [show i - 1 + 1 = i by omega] at this
theorem insI_srt {l : List Int} {x : Int} (h : Srt l) (hx : x ∉ l) : Srt (insI l (bsI x l) x) := fun i hi => by
  have hle := bsI_le x l
  rw [insI_len hle] at hi
  rw [insI_get hle, insI_get hle]
  rcases Nat.lt_trichotomy (i + 1) (bsI x l) with h1 | h1 | h1
  · rw [if_pos (by omega), if_pos h1]; exact h i (by omega)
  · rw [if_pos (by omega), if_neg (by omega), if_pos h1]; exact bsI_lt x (by omega)
  · rcases Nat.eq_or_lt_of_le (show bsI x l ≤ i by omega) with h2 | h2
    · rw [if_neg (by omega), if_pos h2.symm, if_neg (by omega), if_neg (by omega), Nat.add_sub_cancel]
      have h3 := bsI_ge x h (Nat.le_of_eq h2) (by omega)
      have h4 : l.getD i 0 ≠ x := fun e => hx (e ▸ getD_mem 0 (by omega))
      omega
    · rw [if_neg (by omega), if_neg (by omega), if_neg (by omega), if_neg (by omega), Nat.add_sub_cancel]
      have := h (i - 1) (by omega)
      rwa [show i - 1 + 1 = i by omega] at this
theorem insI_bd {l : List Int} {x b : Int} {k : Nat} (hk : k ≤ l.length) (h2 : ∀ i, i < l.length → 0 ≤ l.getD i 0 ∧ l.getD i 0 ≤ b) (hx : 0 ≤ x ∧ x ≤ b) : ∀ i, i < (insI l k x).length → 0 ≤ (insI l k x).getD i 0 ∧ (insI l k x).getD i 0 ≤ b := fun i hi => by
  rw [insI_len hk] at hi
  rw [insI_get hk]
  split
  · exact h2 i (by omega)
  · split
    · exact hx
    · exact h2 (i - 1) (by omega)
theorem spS_ok {s : Si} {t : St8} {n : Int} (h : OnOk s t) (he : spE s t n = 0) : (spS s t n = nxS s t n ∧ nxE s t n = 0 ∧ spF s t n = 0 ∧ 0 ≤ n ∧ n < s.tk.length) ∧ OnOk s (nxS s t n) ∧ (nxS s t n).d.length = t.d.length + 1 := by
  rw [spE] at he
  split at he
  · rename_i hw
    have hn := of_decide_eq_true hw
    split at he
    · rename_i hf
      have e1 : spS s t n = nxS s t n := by rw [spS, if_pos hw, if_pos hf]
      refine ⟨⟨e1, he, hf, hn.1, by omega⟩, ?_, ?_⟩
      · rw [nxE, nxF, fst3, unl0 (by decide), unl0 (by decide), unb_ok (by decide)] at he
        obtain ⟨a1, a2, a3⟩ := he
        have hB := (h.ok.t n.toNat (by omega)).b
        have hsw := trT_bd (p := (tkA s n).p) h
        have hD := nxT_b (n := n) h hB hsw
        have hm := hmT_bd hD
        have hr := of_decide_eq_true a3
        have h2 := h.tm
        have h3 := h.en
        have h4 := h.ok.e
        have h5 := h.oil
        rw [spF, fst2, unb_ok (by decide), unb_ok (by decide)] at hf
        have hx : n ∉ t.d := by simpa using hf.1
        have m1 : 0 ≤ hmT s (nxS s t n) * s.swim := Int.mul_nonneg hm.1 (by omega)
        obtain ⟨b5, b6, b7, b8, b9, b10⟩ := hB
        have m2 : 0 ≤ trT s t (tkA s n).p * s.swim := Int.mul_nonneg hsw.1 (by omega)
        have m3 : 0 ≤ (max (t.t + trT s t (tkA s n).p) (tkA s n).lo - (t.t + trT s t (tkA s n).p)) * s.idle := Int.mul_nonneg (by omega) (by omega)
        have hle := bsI_le n t.d
        obtain ⟨s1, s2⟩ := Srt.of h.d
        refine ⟨h.ok, hD.pl, ?_, ?_, ?_, ?_⟩
        · have : (nxS s t n).t = max (t.t + trT s t (tkA s n).p) (tkA s n).lo + (tkA s n).d := rfl
          have key : (nxS s t n).t + hmT s (nxS s t n) ≤ s.fin := hr.2
          have hm0 : 0 ≤ hmT s (nxS s t n) := hm.1
          generalize hmT s (nxS s t n) = H at key hm0
          rw [this] at key ⊢
          clear hr hm hD a3 a2
          simp only [tkA] at *
          omega
        · have : (nxS s t n).w = t.w - (trT s t (tkA s n).p * s.swim + (max (t.t + trT s t (tkA s n).p) (tkA s n).lo - (t.t + trT s t (tkA s n).p)) * s.idle + (tkA s n).w) := rfl
          have key : s.res ≤ (nxS s t n).w - hmT s (nxS s t n) * s.swim := hr.1
          generalize hmT s (nxS s t n) * s.swim = H at key m1
          rw [this] at key ⊢
          clear hr hm hD a3 a2
          simp only [tkA] at *
          omega
        · have : (nxS s t n).o = t.o - (tkA s n).o := rfl
          have key : 0 ≤ (nxS s t n).o := a2
          rw [this] at key ⊢
          clear hr hm hD a3 a2
          simp only [tkA] at *
          omega
        · exact (insI_srt s1 hx).to (insI_bd hle s2 (by omega))
      · exact insI_len (bsI_le n t.d)
    · rename_i hf; exact absurd he hf
  · cases he
theorem nmAt7 : nmAt 5 [5, 6] = id := by
  funext i
  match i with
  | 0 => rfl
  | 1 => rfl
  | 2 => rfl
  | 3 => rfl
  | 4 => rfl
  | 5 => rfl
  | 6 => rfl
  | n + 7 => rfl
theorem OpsL.is7 {P : Program} [Mix P] {N : Nat} {ops : List LIns} {K : St → Prop} {st : St} (st0 : St) (h : Is 5 st st0 [5, 6]) (k : OpsL P N 5 ops st0 K) : OpsL P N 5 ops st K := by
  have := h.wk
  rw [nmAt7] at this
  exact ⟨Ops.from (Mv.weaken this) k.h⟩
abbrev bestP (s : Si) (t : St8) : List Int × Int := grwF s (s.tk.length + 1) t [] ([], 0)
theorem C142 {s : Si} {t : St8} : (OnOk s t ∧ TkSm s.tk) → PFD Tryz.prog 142 [div s t, .c (.fn 143 [])] (.tup [.c (ints (bestP s t).1), vi .i64 (bestP s t).2]) := fun ⟨h, hs⟩ => by
  have h6 := h.ok.n
  have g := G120 (t0 := t) h.ok hs (fun {t' k} h1 h2 => by
    obtain ⟨⟨e, _⟩, h3, h4⟩ := spS_ok h1 h2
    rw [e]; exact ⟨h3, h4⟩) (fun h => h.dl) (s.tk.length + 1) t [] ([], 0) h (by omega) (fun k hk => by cases hk) (by show 0 + _ ≤ _; omega)
  obtain ⟨B, hB⟩ : ∃ B, B = bestP s t := ⟨_, rfl⟩
  change CallD _ _ _ _ _ _ (gsto s t (bestP s t)) _ at g
  rw [← hB] at g ⊢
  refine pi2 fn142 ?_
  (repeat' first | (refine Owe.same ?_; first | refine Owe.o ?_ | refine Owe.mk ?_ ?_) | (refine Fork.same ?_; (first | refine fkD ?_ ?_ | refine fkN ?_ ?_ | refine fkM ?_ ?_) <;> intro h) | refine MvQ.stay ?_)
  refine Ops.cs rfl rfl (CallS.of fn218 rfl ?_)
  (repeat' first | (refine Owe.same ?_; first | refine Owe.o ?_ | refine Owe.mk ?_ ?_) | (refine Fork.same ?_; (first | refine fkD ?_ ?_ | refine fkN ?_ ?_ | refine fkM ?_ ?_) <;> intro h) | refine MvQ.stay ?_)
  refine Sat.keep [2, 6, 7, 12] ?_
  refine Sat.rf rfl rfl (CallS.of fn262 rfl ?_)
  (repeat' first | (refine Owe.same ?_; first | refine Owe.o ?_ | refine Owe.mk ?_ ?_) | (refine Fork.same ?_; (first | refine fkD ?_ ?_ | refine fkN ?_ ?_ | refine fkM ?_ ?_) <;> intro h) | refine MvQ.stay ?_)
  refine OpsL.is7 (⟨[(6, .c (.fn 263 [5, 3, 6])), (7, div s t)], [(6, .box [.fn 263 [5, 3, 6]]), (5, .box [.yd 4]), (4, .lp [(2, .c (.rp (diD s t))), (6, .c (.bp 0 0)), (7, .c (.bp 1 0)), (12, .c (.fn 262 [3, 2]))] .ready none (RR Tryz.prog 26 [13] ra142 rb142)), (3, .box [.fn 143 []]), (2, .box (diC s t)), (1, .box [int 0]), (0, .box [ints []])], 7⟩) ?_ ?_
  · (refine qis ?_ ?_ <;> (repeat' first | exact rfl | (refine qS ?_; constructor)))
  refine OpsL.cmi (gsto s t ([], 0)) _ (g.at _) (sub_cons rfl (sub_cons rfl (sub_cons rfl (sub_cons rfl (sub_cons rfl (sub_cons rfl sub_nil)))))) rfl rfl ?_ ?_
  · refine VEqs.ris (qvs ?_)
    (repeat' first | exact rfl | (refine qS ?_; constructor))
  · (repeat' first | (refine Owe.same ?_; first | refine Owe.o ?_ | refine Owe.mk ?_ ?_) | (refine Fork.same ?_; (first | refine fkD ?_ ?_ | refine fkN ?_ ?_ | refine fkM ?_ ?_) <;> intro h) | refine MvQ.stay ?_)
    (refine rqK rfl ?_; (repeat' first | exact rfl | (refine qS ?_; constructor)))
theorem C64 {s : Si} {t : St8} : (SiSm s ∧ t.d.length ≤ 1000) → PFD Tryz.prog 64 [siv s, stv t] (.tup [.c (ints (if orE s t = 0 then (bestP s t).1 else [])), vi .i64 (if orE s t = 0 then (bestP s t).2 else 0), vi .i64 (orE s t)]) := fun ⟨hs, hd⟩ => by
  have c1 := C141 (s := s) (t := t) ⟨hs, by omega⟩
  by_cases h0 : orE s t = 0
  · have hO : onE s t = 0 := by
      rw [orE] at h0
      split at h0
      · assumption
      · rename_i h; exact absurd h0 h
    have c2 := C142 (s := s) (t := t) ⟨OnOk.of hO, hs.t⟩
    rw [if_pos h0, if_pos h0]
    generalize bestP s t = B at *
    refine pi3 fn64 ?_
    (repeat' first | (refine Owe.same ?_; first | refine Owe.o ?_ | refine Owe.mk ?_ ?_) | (refine Fork.same ?_; (first | refine fkD ?_ ?_ | refine fkN ?_ ?_ | refine fkM ?_ ?_) <;> intro h) | ((first | refine OpsL.same ?_ | refine OpsDL.same ?_); first | refine pK c1 rfl rfl ?_) | refine MvQ.stay ?_)
    · exact absurd h0 h
    · (repeat' first | (refine Owe.same ?_; first | refine Owe.o ?_ | refine Owe.mk ?_ ?_) | (refine Fork.same ?_; (first | refine fkD ?_ ?_ | refine fkN ?_ ?_ | refine fkM ?_ ?_) <;> intro h) | ((first | refine OpsL.same ?_ | refine OpsDL.same ?_); first | refine pK c2 rfl rfl ?_) | refine MvQ.stay ?_)
      (refine rqK rfl ?_; (repeat' first | exact rfl | (refine qS ?_; constructor)))
      exact h0.symm
  · rw [if_neg h0, if_neg h0]
    refine pi3 fn64 ?_
    (repeat' first | (refine Owe.same ?_; first | refine Owe.o ?_ | refine Owe.mk ?_ ?_) | (refine Fork.same ?_; (first | refine fkD ?_ ?_ | refine fkN ?_ ?_ | refine fkM ?_ ?_) <;> intro h) | ((first | refine OpsL.same ?_ | refine OpsDL.same ?_); first | refine pK c1 rfl rfl ?_) | refine MvQ.stay ?_)
    · (refine rqK rfl ?_; (repeat' first | exact rfl | (refine qS ?_; constructor)))
    · exact absurd h h0
def cmpL : List Int → List Int → Int
  | [], [] => 0
  | [], _ :: _ => -1
  | _ :: _, [] => 1
  | x :: l, y :: m => if cmpI x y = 0 then cmpL l m else cmpI x y
theorem cmpL_drop {l m : List Int} {k : Nat} (h : k < l.length) (h2 : k < m.length) : cmpL (l.drop k) (m.drop k) = if cmpI (l.getD k 0) (m.getD k 0) = 0 then cmpL (l.drop (k + 1)) (m.drop (k + 1)) else cmpI (l.getD k 0) (m.getD k 0) := by
  rw [List.drop_eq_getElem_cons h, List.drop_eq_getElem_cons h2, cmpL, List.getD_eq_getElem?_getD, List.getElem?_eq_getElem h, List.getD_eq_getElem?_getD, List.getElem?_eq_getElem h2]
  rfl
theorem C161 {l m : List Int} : (l.length ≤ 1000000 ∧ m.length ≤ 1000000) → PFD Tryz.prog 161 [.c (ints l), .c (ints m)] (vi .i64 (cmpL l m)) := fun ⟨hl, hm⟩ => by
  obtain ⟨q, hq⟩ : ∃ q, q = cmpL l m := ⟨_, rfl⟩
  rw [← hq]
  refine pi1 fn161 ?_
  (repeat' first | (refine Owe.same ?_; first | refine Owe.o ?_ | refine Owe.mk ?_ ?_) | (refine Fork.same ?_; (first | refine fkD ?_ ?_ | refine fkN ?_ ?_ | refine fkM ?_ ?_) <;> intro h) | refine MvQ.stay ?_)
  refine Sat.lp0 (fun k : Nat => [(11, vi .i64 k), (10, vi .i64 l.length), (9, .c (ints l)), (0, .c (ints l)), (1, .c (ints m))]) (fun k => k ≤ l.length ∧ k ≤ m.length ∧ q = cmpL (l.drop k) (m.drop k)) (fun k => l.length - k) 0 ⟨Nat.zero_le _, Nat.zero_le _, hq⟩ (by ((first | refine qen ?_ | refine qvs ?_ | refine qeq ?_ | refine qst ?_ | refine qv ?_ | refine qc ?_ | refine qe ?_ | refine qcs ?_ | skip); (repeat' first | exact rfl | (refine qS ?_; constructor)))) ?_
  intro k ⟨h1, h2, h3⟩
  refine Fork.dec (fun hlt => ?_) (fun hlt => ?_)
  · have hlt : k < l.length := by omega
    (repeat' first | (refine Owe.same ?_; first | refine Owe.o ?_ | refine Owe.mk ?_ ?_) | (refine Fork.same ?_; (first | refine fkD ?_ ?_ | refine fkN ?_ ?_ | refine fkM ?_ ?_) <;> intro h) | ((first | refine OpsL.same ?_ | refine OpsDL.same ?_); first | refine pK C160 rfl rfl ?_) | refine MvQ.stay ?_)
    · have h4 : m.length ≤ k := by omega
      rw [List.drop_of_length_le h4, List.drop_eq_getElem_cons hlt, cmpL] at h3
      subst h3; (refine rqK rfl ?_; (repeat' first | exact rfl | (refine qS ?_; constructor)))
    · rename_i hk
      have h : ¬ cmpI (l.getD k 0) (m.getD k 0) = 0 := h
      rw [cmpL_drop hlt (by omega), if_neg h] at h3
      subst h3; (refine rqK rfl ?_; (repeat' first | exact rfl | (refine qS ?_; constructor)))
    · rename_i hk
      have h : cmpI (l.getD k 0) (m.getD k 0) = 0 := h
      rw [cmpL_drop hlt (by omega), if_pos h] at h3
      exact again0 (k + 1) ⟨hlt, by omega, h3⟩ (by omega) (by ((first | refine qen ?_ | refine qvs ?_ | refine qeq ?_ | refine qst ?_ | refine qv ?_ | refine qc ?_ | refine qe ?_ | refine qcs ?_ | skip); (repeat' first | exact rfl | (refine qS ?_; constructor))))
  · rw [List.drop_of_length_le (show l.length ≤ k by omega)] at h3
    (repeat' first | (refine Owe.same ?_; first | refine Owe.o ?_ | refine Owe.mk ?_ ?_) | (refine Fork.same ?_; (first | refine fkD ?_ ?_ | refine fkN ?_ ?_ | refine fkM ?_ ?_) <;> intro h) | refine MvQ.stay ?_)
    · rw [List.drop_eq_getElem_cons (show k < m.length by omega), cmpL] at h3
      subst h3; (refine rqK rfl ?_; (repeat' first | exact rfl | (refine qS ?_; constructor)))
    · rw [List.drop_of_length_le (show m.length ≤ k by omega), cmpL] at h3
      subst h3; (refine rqK rfl ?_; (repeat' first | exact rfl | (refine qS ?_; constructor)))
end Go.Pw
set_option linter.unusedSimpArgs false
set_option linter.unusedVariables false
set_option maxHeartbeats 1000000
namespace Go.Pw
set_option maxRecDepth 2000
open Go Go.Proofs A1 A2 A3 A4
theorem C223a {a b : List Int} : (a.length ≤ 1000 ∧ b.length ≤ 1000 ∧ 0 < (a.length : Int) + b.length) → PFD Tryz.prog 223 [.c (.d (.sl 1 2 fun i => [[intsD a], [intsD b]].getD i []))] (.c (ints (a ++ b))) := fun ⟨ha, hb, h0⟩ => by
  refine pi1 fn223 ?_
  (repeat' first | (refine Owe.same ?_; first | refine Owe.o ?_ | refine Owe.mk ?_ ?_) | (refine Fork.same ?_; (first | refine fkD ?_ ?_ | refine fkN ?_ ?_ | refine fkM ?_ ?_) <;> intro h) | refine MvQ.stay ?_)
  refine Sat.lp0 (fun k : Nat => [(11, vi .i64 k), (10, vi .i64 2), (9, .c (.d (.sl 1 2 fun i => [[intsD a], [intsD b]].getD i []))), (0, .c (.d (.sl 1 2 fun i => [[intsD a], [intsD b]].getD i []))), (3, vi .i64 (if k = 0 then 0 else if k = 1 then (a.length : Int) else a.length + b.length))]) (fun k => k ≤ 2) (fun k => 2 - k) 0 (by decide) (by ((first | refine qen ?_ | refine qvs ?_ | refine qeq ?_ | refine qst ?_ | refine qv ?_ | refine qc ?_ | refine qe ?_ | refine qcs ?_ | skip); (repeat' first | exact rfl | (refine qS ?_; constructor)))) ?_
  intro k hk
  match k, hk with
  | 0, _ =>
    (repeat' first | (refine Owe.same ?_; first | refine Owe.o ?_ | refine Owe.mk ?_ ?_) | (refine Fork.same ?_; (first | refine fkY ?_ | refine fkF ?_ | ((first | refine fkD ?_ ?_ | refine fkN ?_ ?_ | refine fkM ?_ ?_) <;> intro h))) | ((first | refine OpsL.same ?_ | refine OpsDL.same ?_); first | refine oK C160 rfl rfl rfl ?_) | refine MvQ.stay ?_)
    refine again0 1 (by decide) (by decide) ?_
    ((first | refine qen ?_ | refine qvs ?_ | refine qeq ?_ | refine qst ?_ | refine qv ?_ | refine qc ?_ | refine qe ?_ | refine qcs ?_ | skip); (repeat' first | exact rfl | (refine qS ?_; constructor)))
    simp
  | 1, _ =>
    (repeat' first | (refine Owe.same ?_; first | refine Owe.o ?_ | refine Owe.mk ?_ ?_) | (refine Fork.same ?_; (first | refine fkY ?_ | refine fkF ?_ | ((first | refine fkD ?_ ?_ | refine fkN ?_ ?_ | refine fkM ?_ ?_) <;> intro h))) | ((first | refine OpsL.same ?_ | refine OpsDL.same ?_); first | refine oK C160 rfl rfl rfl ?_) | refine MvQ.stay ?_)
    refine again0 2 (by decide) (by decide) ?_
    ((first | refine qen ?_ | refine qvs ?_ | refine qeq ?_ | refine qst ?_ | refine qv ?_ | refine qc ?_ | refine qe ?_ | refine qcs ?_ | skip); (repeat' first | exact rfl | (refine qS ?_; constructor)))
  | 2, _ =>
    (repeat' first | (refine Owe.same ?_; first | refine Owe.o ?_ | refine Owe.mk ?_ ?_) | (refine Fork.same ?_; (first | refine fkY ?_ | refine fkF ?_ | ((first | refine fkD ?_ ?_ | refine fkN ?_ ?_ | refine fkM ?_ ?_) <;> intro h))) | ((first | refine OpsL.same ?_ | refine OpsDL.same ?_); first | refine oK C160 rfl rfl rfl ?_) | refine MvQ.stay ?_)
    refine Ops.cs rfl rfl (CallS.of fn265 rfl ?_)
    (repeat' first | (refine Owe.same ?_; first | refine Owe.o ?_ | refine Owe.mk ?_ ?_) | (refine Fork.same ?_; (first | refine fkY ?_ | refine fkF ?_ | ((first | refine fkD ?_ ?_ | refine fkN ?_ ?_ | refine fkM ?_ ?_) <;> intro h))) | ((first | refine OpsL.same ?_ | refine OpsDL.same ?_); first | refine oK C160 rfl rfl rfl ?_) | refine MvQ.stay ?_)
    (repeat' first | (refine Owe.same ?_; first | refine Owe.o ?_ | refine Owe.mk ?_ ?_) | (refine Fork.same ?_; (first | refine fkD ?_ ?_ | refine fkN ?_ ?_ | refine fkM ?_ ?_) <;> intro h) | refine MvQ.stay ?_)
    refine Sat.lp (fun ((k, acc) : Nat × List Int) => ⟨[(27, vi .i64 k), (26, vi .i64 2), (25, .c (.d (.sl 1 2 fun i => [[intsD a], [intsD b]].getD i []))), (6, .c (.ms 0 acc.length))], [(0, rowv 3 1 r1 0 acc)], 1⟩) (fun ((k, acc) : Nat × List Int) => (k = 0 ∧ acc = []) ∨ (k = 1 ∧ acc = a) ∨ (k = 2 ∧ acc = a ++ b)) (fun ((k, _) : Nat × List Int) => 2 - k) (0, []) [1] (.inl ⟨rfl, rfl⟩) ?_ ?_
    · (refine qis ?_ ?_ <;> (repeat' first | exact rfl | (refine qS ?_; constructor)))
    · intro ⟨k, acc⟩ hk
      rcases hk with ⟨rfl, rfl⟩ | ⟨rfl, rfl⟩ | ⟨rfl, rfl⟩
      · (repeat' first | (refine Owe.same ?_; first | refine Owe.o ?_ | refine Owe.mk ?_ ?_) | (refine Fork.same ?_; (first | refine fkY ?_ | refine fkF ?_ | ((first | refine fkD ?_ ?_ | refine fkN ?_ ?_ | refine fkM ?_ ?_) <;> intro h))) | ((first | refine OpsL.same ?_ | refine OpsDL.same ?_); first | refine oK C160 rfl rfl rfl ?_) | refine MvQ.stay ?_)
        refine again (1, a) [1] (.inr (.inl ⟨rfl, rfl⟩)) (by show 2 - 1 < 2 - 0; decide) ?_
        (refine qis ?_ ?_ <;> (repeat' first | exact rfl | (refine qS ?_; constructor)))
        all_goals simp
      · (repeat' first | (refine Owe.same ?_; first | refine Owe.o ?_ | refine Owe.mk ?_ ?_) | (refine Fork.same ?_; (first | refine fkY ?_ | refine fkF ?_ | ((first | refine fkD ?_ ?_ | refine fkN ?_ ?_ | refine fkM ?_ ?_) <;> intro h))) | ((first | refine OpsL.same ?_ | refine OpsDL.same ?_); first | refine oK C160 rfl rfl rfl ?_) | refine MvQ.stay ?_)
        refine again (2, acc ++ b) [1] (.inr (.inr ⟨rfl, rfl⟩)) (by show 2 - 2 < 2 - 1; decide) ?_
        (refine qis ?_ ?_ <;> (repeat' first | exact rfl | (refine qS ?_; constructor)))
        all_goals simp
      · (repeat' first | (refine Owe.same ?_; first | refine Owe.o ?_ | refine Owe.mk ?_ ?_) | (refine Fork.same ?_; (first | refine fkY ?_ | refine fkF ?_ | ((first | refine fkD ?_ ?_ | refine fkN ?_ ?_ | refine fkM ?_ ?_) <;> intro h))) | ((first | refine OpsL.same ?_ | refine OpsDL.same ?_); first | refine oK C160 rfl rfl rfl ?_) | refine MvQ.stay ?_)
        refine rqF 0 _ rfl rfl rfl ?_; (repeat' first | exact rfl | (refine qS ?_; constructor))
end Go.Pw
set_option linter.unusedSimpArgs false
set_option linter.unusedVariables false
set_option maxHeartbeats 4000000
namespace Go.Pw
set_option maxRecDepth 2000
open Go Go.Proofs A1 A2 A3 A4
theorem C223e : PFD Tryz.prog 223 [.c (.d (.sl 1 2 fun i => [[intsD []], [intsD []]].getD i []))] (.c (ints [])) := by
  refine pi1 fn223 ?_
  (repeat' first | (refine Owe.same ?_; first | refine Owe.o ?_ | refine Owe.mk ?_ ?_) | (refine Fork.same ?_; (first | refine fkD ?_ ?_ | refine fkN ?_ ?_ | refine fkM ?_ ?_) <;> intro h) | refine MvQ.stay ?_)
  refine Sat.lp0 (fun k : Nat => [(11, vi .i64 k), (10, vi .i64 2), (9, .c (.d (.sl 1 2 fun i => [[intsD []], [intsD []]].getD i []))), (0, .c (.d (.sl 1 2 fun i => [[intsD []], [intsD []]].getD i []))), (3, vi .i64 0)]) (fun k => k ≤ 2) (fun k => 2 - k) 0 (by decide) (by ((first | refine qen ?_ | refine qvs ?_ | refine qeq ?_ | refine qst ?_ | refine qv ?_ | refine qc ?_ | refine qe ?_ | refine qcs ?_ | skip); (repeat' first | exact rfl | (refine qS ?_; constructor)))) ?_
  intro k hk
  match k, hk with
  | 0, _ =>
    (repeat' first | (refine Owe.same ?_; first | refine Owe.o ?_ | refine Owe.mk ?_ ?_) | (refine Fork.same ?_; (first | refine fkY ?_ | refine fkF ?_ | ((first | refine fkD ?_ ?_ | refine fkN ?_ ?_ | refine fkM ?_ ?_) <;> intro h))) | ((first | refine OpsL.same ?_ | refine OpsDL.same ?_); first | refine oK C160 rfl rfl rfl ?_) | refine MvQ.stay ?_)
    refine again0 1 (by decide) (by decide) ?_
    ((first | refine qen ?_ | refine qvs ?_ | refine qeq ?_ | refine qst ?_ | refine qv ?_ | refine qc ?_ | refine qe ?_ | refine qcs ?_ | skip); (repeat' first | exact rfl | (refine qS ?_; constructor)))
  | 1, _ =>
    (repeat' first | (refine Owe.same ?_; first | refine Owe.o ?_ | refine Owe.mk ?_ ?_) | (refine Fork.same ?_; (first | refine fkY ?_ | refine fkF ?_ | ((first | refine fkD ?_ ?_ | refine fkN ?_ ?_ | refine fkM ?_ ?_) <;> intro h))) | ((first | refine OpsL.same ?_ | refine OpsDL.same ?_); first | refine oK C160 rfl rfl rfl ?_) | refine MvQ.stay ?_)
    refine again0 2 (by decide) (by decide) ?_
    ((first | refine qen ?_ | refine qvs ?_ | refine qeq ?_ | refine qst ?_ | refine qv ?_ | refine qc ?_ | refine qe ?_ | refine qcs ?_ | skip); (repeat' first | exact rfl | (refine qS ?_; constructor)))
  | 2, _ =>
    (repeat' first | (refine Owe.same ?_; first | refine Owe.o ?_ | refine Owe.mk ?_ ?_) | (refine Fork.same ?_; (first | refine fkY ?_ | refine fkF ?_ | ((first | refine fkD ?_ ?_ | refine fkN ?_ ?_ | refine fkM ?_ ?_) <;> intro h))) | ((first | refine OpsL.same ?_ | refine OpsDL.same ?_); first | refine oK C160 rfl rfl rfl ?_) | refine MvQ.stay ?_)
    refine Ops.cs rfl rfl (CallS.of fn265 rfl ?_)
    (repeat' first | (refine Owe.same ?_; first | refine Owe.o ?_ | refine Owe.mk ?_ ?_) | (refine Fork.same ?_; (first | refine fkY ?_ | refine fkF ?_ | ((first | refine fkD ?_ ?_ | refine fkN ?_ ?_ | refine fkM ?_ ?_) <;> intro h))) | ((first | refine OpsL.same ?_ | refine OpsDL.same ?_); first | refine oK C160 rfl rfl rfl ?_) | refine MvQ.stay ?_)
    (repeat' first | (refine Owe.same ?_; first | refine Owe.o ?_ | refine Owe.mk ?_ ?_) | (refine Fork.same ?_; (first | refine fkD ?_ ?_ | refine fkN ?_ ?_ | refine fkM ?_ ?_) <;> intro h) | refine MvQ.stay ?_)
    refine Sat.nilS 6 3 1 (fun i => r1 (([] : List Int).getD i 0)) rfl ?_
    refine Sat.lp (fun k : Nat => ⟨[(27, vi .i64 k), (26, vi .i64 2), (25, .c (.d (.sl 1 2 fun i => [[intsD []], [intsD []]].getD i []))), (6, .c (.ms 0 0))], [(0, rowv 3 1 r1 0 ([] : List Int))], 1⟩) (fun k : Nat => k ≤ 2) (fun k => 2 - k) 0 [0] (by decide) ?_ ?_
    · (refine qis ?_ ?_ <;> (repeat' first | exact rfl | (refine qS ?_; constructor)))
    · intro k hk
      match k, hk with
      | 0, _ =>
        (repeat' first | (refine Owe.same ?_; first | refine Owe.o ?_ | refine Owe.mk ?_ ?_) | (refine Fork.same ?_; (first | refine fkY ?_ | refine fkF ?_ | ((first | refine fkD ?_ ?_ | refine fkN ?_ ?_ | refine fkM ?_ ?_) <;> intro h))) | ((first | refine OpsL.same ?_ | refine OpsDL.same ?_); first | refine oK C160 rfl rfl rfl ?_) | refine MvQ.stay ?_)
        refine again 1 [1] (by decide) (by decide) ?_
        (refine qis ?_ ?_ <;> (repeat' first | exact rfl | (refine qS ?_; constructor)))
      | 1, _ =>
        (repeat' first | (refine Owe.same ?_; first | refine Owe.o ?_ | refine Owe.mk ?_ ?_) | (refine Fork.same ?_; (first | refine fkY ?_ | refine fkF ?_ | ((first | refine fkD ?_ ?_ | refine fkN ?_ ?_ | refine fkM ?_ ?_) <;> intro h))) | ((first | refine OpsL.same ?_ | refine OpsDL.same ?_); first | refine oK C160 rfl rfl rfl ?_) | refine MvQ.stay ?_)
        refine again 2 [1] (by decide) (by decide) ?_
        (refine qis ?_ ?_ <;> (repeat' first | exact rfl | (refine qS ?_; constructor)))
      | 2, _ =>
        (repeat' first | (refine Owe.same ?_; first | refine Owe.o ?_ | refine Owe.mk ?_ ?_) | (refine Fork.same ?_; (first | refine fkY ?_ | refine fkF ?_ | ((first | refine fkD ?_ ?_ | refine fkN ?_ ?_ | refine fkM ?_ ?_) <;> intro h))) | ((first | refine OpsL.same ?_ | refine OpsDL.same ?_); first | refine oK C160 rfl rfl rfl ?_) | refine MvQ.stay ?_)
        refine rqF 0 _ rfl rfl rfl ?_; (repeat' first | exact rfl | (refine qS ?_; constructor))
theorem C223 {a b : List Int} : (a.length ≤ 1000 ∧ b.length ≤ 1000) → PFD Tryz.prog 223 [.c (.d (.sl 1 2 fun i => [[intsD a], [intsD b]].getD i []))] (.c (ints (a ++ b))) := fun ⟨ha, hb⟩ => by
  by_cases h0 : 0 < (a.length : Int) + b.length
  · exact C223a ⟨ha, hb, h0⟩
  · obtain rfl : a = [] := List.eq_nil_of_length_eq_zero (by omega)
    obtain rfl : b = [] := List.eq_nil_of_length_eq_zero (by omega)
    exact C223e
abbrev wo (l : List Int) (k : Nat) : List Int := l.take k ++ l.drop (k + 1)
theorem wo_len {l : List Int} {k : Nat} (h : k < l.length) : (wo l k).length + 1 = l.length := by simp [wo]; omega
theorem wo_mem {l : List Int} {k : Nat} {x : Int} (h : x ∈ wo l k) : x ∈ l := by
  rcases List.mem_append.1 h with h | h
  · exact List.mem_of_mem_take h
  · exact List.mem_of_mem_drop h
theorem wo_nd {l : List Int} {k : Nat} (h : l.Nodup) : (wo l k).Nodup := by
  have : (wo l k).Sublist l := by
    have h1 : (l.take k ++ l.drop (k + 1)).Sublist (l.take k ++ l.drop k) := (List.Sublist.refl _).append (List.drop_sublist_drop_left l (Nat.le_succ k))
    rwa [List.take_append_drop] at h1
  exact this.nodup h
theorem wo_not {l : List Int} {k : Nat} (h : l.Nodup) (hk : k < l.length) : l.getD k 0 ∉ wo l k := by
  have e : l = l.take k ++ l.getD k 0 :: l.drop (k + 1) := by
    rw [List.getD_eq_getElem?_getD, List.getElem?_eq_getElem hk]
    show l = l.take k ++ l[k] :: l.drop (k + 1)
    rw [← List.drop_eq_getElem_cons hk, List.take_append_drop]
  intro hm
  rw [e] at h
  have h2 := List.nodup_append.1 h
  rcases List.mem_append.1 hm with h1 | h1
  · exact h2.2.2 _ h1 _ (List.mem_cons_self ..) rfl
  · exact (List.nodup_cons.1 h2.2.1).1 h1
theorem C223w {l : List Int} {k : Nat} {f g : Nat → List D} (hf : ∀ i, i < k → f i = r1 (l.getD i 0)) (hg : ∀ i, k + 1 + i < l.length → g i = r1 (l.getD (k + 1 + i) 0)) {n m : Nat} (hn : n = k) (hm : m = l.length - (k + 1)) : (k < l.length ∧ l.length ≤ 1000) → PFD Tryz.prog 223 [.c (.d (.sl 1 2 fun i => [[.sl 1 n f], [.sl 1 m g]].getD i []))] (.c (ints (wo l k))) := fun ⟨hk, hl⟩ => by
  subst hn
  subst hm
  have c := C223 (a := l.take n) (b := l.drop (n + 1)) ⟨by rw [List.length_take]; omega, by rw [List.length_drop]; omega⟩
  refine PFD.ri c (.cons (RI.cI (DI.sl fun i hi => ?_)) .nil)
  match i, hi with
  | 0, _ =>
    refine .cons ?_ .nil
    have e : (l.take n).length = n := by rw [List.length_take]; omega
    show DI _ (.sl 1 (l.take n).length _)
    rw [e]
    refine DI.sl fun i hi => ?_
    have e2 : (l.take n).getD i 0 = l.getD i 0 := by simp only [List.getD_eq_getElem?_getD, List.getElem?_take, hi, if_true]
    rw [hf i hi, e2]
    exact DIs.refl _
  | 1, _ =>
    refine .cons ?_ .nil
    show DI _ (.sl 1 (l.drop (n + 1)).length _)
    rw [List.length_drop]
    refine DI.sl fun i hi => ?_
    have e2 : (l.drop (n + 1)).getD i 0 = l.getD (n + 1 + i) 0 := by simp only [List.getD_eq_getElem?_getD, List.getElem?_drop]
    rw [hg i (by omega), e2]
    exact DIs.refl _
theorem insI_mem {l : List Int} {i : Nat} {x y : Int} : y ∈ insI l i x ↔ y = x ∨ y ∈ l := by
  rw [insI, List.mem_append, List.mem_cons]
  conv => rhs; rw [← List.take_append_drop i l, List.mem_append]
  constructor
  · rintro (h | h | h)
    · exact .inr (.inl h)
    · exact .inl h
    · exact .inr (.inr h)
  · rintro (h | h | h)
    · exact .inr (.inl h)
    · exact .inl h
    · exact .inr (.inr h)
theorem nxS_ok {s : Si} {t : St8} {n : Int} (h : OnOk s t) (hn : 0 ≤ n ∧ n < s.tk.length) (hx : n ∉ t.d) (he : nxE s t n = 0) : OnOk s (nxS s t n) ∧ (nxS s t n).d.length = t.d.length + 1 ∧ ∀ m, m ∈ (nxS s t n).d ↔ m = n ∨ m ∈ t.d := by
  rw [nxE, nxF, fst3, unl0 (by decide), unl0 (by decide), unb_ok (by decide)] at he
  obtain ⟨a1, a2, a3⟩ := he
  have hB := (h.ok.t n.toNat (by omega)).b
  have hsw := trT_bd (p := (tkA s n).p) h
  have hD := nxT_b (n := n) h hB hsw
  have hm := hmT_bd hD
  have hr := of_decide_eq_true a3
  have h2 := h.tm
  have h3 := h.en
  have h4 := h.ok.e
  have h5 := h.oil
  have m1 : 0 ≤ hmT s (nxS s t n) * s.swim := Int.mul_nonneg hm.1 (by omega)
  obtain ⟨b5, b6, b7, b8, b9, b10⟩ := hB
  have m2 : 0 ≤ trT s t (tkA s n).p * s.swim := Int.mul_nonneg hsw.1 (by omega)
  have m3 : 0 ≤ (max (t.t + trT s t (tkA s n).p) (tkA s n).lo - (t.t + trT s t (tkA s n).p)) * s.idle := Int.mul_nonneg (by omega) (by omega)
  have hle := bsI_le n t.d
  obtain ⟨s1, s2⟩ := Srt.of h.d
  refine ⟨⟨h.ok, hD.pl, ?_, ?_, ?_, ?_⟩, insI_len hle, fun m => insI_mem⟩
  · have : (nxS s t n).t = max (t.t + trT s t (tkA s n).p) (tkA s n).lo + (tkA s n).d := rfl
    have key : (nxS s t n).t + hmT s (nxS s t n) ≤ s.fin := hr.2
    have hm0 : 0 ≤ hmT s (nxS s t n) := hm.1
    generalize hmT s (nxS s t n) = H at key hm0
    rw [this] at key ⊢
    clear hr hm hD a3 a2
    simp only [tkA] at *
    omega
  · have : (nxS s t n).w = t.w - (trT s t (tkA s n).p * s.swim + (max (t.t + trT s t (tkA s n).p) (tkA s n).lo - (t.t + trT s t (tkA s n).p)) * s.idle + (tkA s n).w) := rfl
    have key : s.res ≤ (nxS s t n).w - hmT s (nxS s t n) * s.swim := hr.1
    generalize hmT s (nxS s t n) * s.swim = H at key m1
    rw [this] at key ⊢
    clear hr hm hD a3 a2
    simp only [tkA] at *
    omega
  · have : (nxS s t n).o = t.o - (tkA s n).o := rfl
    have key : 0 ≤ (nxS s t n).o := a2
    rw [this] at key ⊢
    clear hr hm hD a3 a2
    simp only [tkA] at *
    omega
  · exact (insI_srt s1 hx).to (insI_bd hle s2 (by omega))
abbrev nowB (s : Si) (t : St8) (l : List Int) (k : Nat) : Bool := !((tkA s (l.getD k 0)).a.any fun m => decide (m ∈ wo l k)) && decide (nxE s t (l.getD k 0) = 0)
def togB (s : Si) : Nat → St8 → List Int → Bool
  | 0, _, l => decide (l = [])
  | f + 1, t, l => decide (l = []) || anyN (fun k => nowB s t l k && togB s f (nxS s t (l.getD k 0)) (wo l k)) l.length
structure SetOk (s : Si) (t : St8) (l : List Int) : Prop where
  n : tkNs s l
  u : l.Nodup
  d : ∀ x ∈ l, x ∉ t.d
theorem SetOk.wo {s : Si} {t : St8} {l : List Int} {k : Nat} (h : SetOk s t l) (hk : k < l.length) (hd : ∀ m, m ∈ (nxS s t (l.getD k 0)).d ↔ m = l.getD k 0 ∨ m ∈ t.d) : SetOk s (nxS s t (l.getD k 0)) (wo l k) where
  n := fun i hi => by
    have hm := wo_mem (getD_mem 0 hi)
    obtain ⟨j, hj, e⟩ := List.getElem_of_mem hm
    have := h.n j hj
    rw [List.getD_eq_getElem?_getD, List.getElem?_eq_getElem hj] at this
    rw [← e]; exact this
  u := wo_nd h.u
  d := fun x hx => by
    rw [hd]
    rintro (e | e)
    · subst e; exact wo_not h.u hk hx
    · exact h.d x (wo_mem hx) e
theorem SetOk.len {s : Si} {t : St8} {l : List Int} (h : SetOk s t l) : l.length ≤ s.tk.length := by
  have : ∀ (N : Nat) (K : List Int), K.Nodup → (∀ a ∈ K, 0 ≤ a ∧ a < N) → K.length ≤ N := fun N => by
    induction N with
    | zero =>
      intro K _ hb
      have : K = [] := List.eq_nil_iff_forall_not_mem.2 fun a ha => by have := hb a ha; omega
      subst this; exact Nat.le_refl _
    | succ N ih =>
      intro K hn hb
      by_cases hm : (N : Int) ∈ K
      · have hl := List.length_erase_of_mem hm
        have hpos : 0 < K.length := List.length_pos_of_mem hm
        have := ih (K.erase (N : Int)) (hn.erase _) (fun a ha => by
          have h1 := (hn.mem_erase_iff).1 ha
          have := hb a h1.2
          have := h1.1
          omega)
        omega
      · have := ih K hn (fun a ha => by
          have := hb a ha
          have : a ≠ N := fun h => hm (h ▸ ha)
          omega)
        omega
  refine this _ l h.u fun a ha => ?_
  obtain ⟨j, hj, e⟩ := List.getElem_of_mem ha
  have := h.n j hj
  rw [List.getD_eq_getElem?_getD, List.getElem?_eq_getElem hj] at this
  rw [← e]; exact this
theorem C159 {s : Si} (hs : TkSm s.tk) : ∀ (f : Nat) {t : St8} {l : List Int}, OnOk s t → SetOk s t l → l.length ≤ f → PFD Tryz.prog 159 [div s t, .c (ints l)] (vbl (togB s f t l))
  | 0, t, l, h, hl, hf => by
    obtain rfl : l = [] := List.eq_nil_of_length_eq_zero (by omega)
    refine pi1 fn159 ?_
    (repeat' first | (refine Owe.same ?_; first | refine Owe.o ?_ | refine Owe.mk ?_ ?_) | (refine Fork.same ?_; (first | refine fkY ?_ | refine fkF ?_ | ((first | refine fkD ?_ ?_ | refine fkN ?_ ?_ | refine fkM ?_ ?_) <;> intro h))) | ((first | refine OpsL.same ?_ | refine OpsDL.same ?_); first | refine oK C46 rfl rfl rfl ?_) | refine MvQ.stay ?_)
    (refine rqK rfl ?_; (repeat' first | exact rfl | (refine qS ?_; constructor)))
  | f + 1, t, l, h, hl, hf => by
    have h6 := h.ok.n
    have hll := hl.len
    obtain ⟨q, hq⟩ : ∃ q, q = togB s (f + 1) t l := ⟨_, rfl⟩
    rw [← hq]
    rw [togB] at hq
    by_cases h0 : l = []
    · subst h0
      subst hq
      refine pi1 fn159 ?_
      (repeat' first | (refine Owe.same ?_; first | refine Owe.o ?_ | refine Owe.mk ?_ ?_) | (refine Fork.same ?_; (first | refine fkY ?_ | refine fkF ?_ | ((first | refine fkD ?_ ?_ | refine fkN ?_ ?_ | refine fkM ?_ ?_) <;> intro h))) | ((first | refine OpsL.same ?_ | refine OpsDL.same ?_); first | refine oK C46 rfl rfl rfl ?_) | refine MvQ.stay ?_)
      (refine rqK rfl ?_; (repeat' first | exact rfl | (refine qS ?_; constructor)))
    · have hpos := List.length_pos_iff.2 h0
      rw [decide_eq_false h0, Bool.false_or] at hq
      obtain ⟨F, hF⟩ : ∃ F, F = fun k => nowB s t l k && togB s f (nxS s t (l.getD k 0)) (wo l k) := ⟨_, rfl⟩
      rw [← hF] at hq
      refine pi1 fn159 ?_
      (repeat' first | (refine Owe.same ?_; first | refine Owe.o ?_ | refine Owe.mk ?_ ?_) | (refine Fork.same ?_; (first | refine fkY ?_ | refine fkF ?_ | ((first | refine fkD ?_ ?_ | refine fkN ?_ ?_ | refine fkM ?_ ?_) <;> intro h))) | ((first | refine OpsL.same ?_ | refine OpsDL.same ?_); first | refine oK C46 rfl rfl rfl ?_) | refine MvQ.stay ?_)
      refine Sat.lp0 (fun k : Nat => [(16, vi .i64 k), (15, vi .i64 l.length), (14, .c (ints l)), (1, .c (ints l)), (2, .c (.rp (diD s t)))]) (fun k => k ≤ l.length ∧ ∀ i, i < k → F i = false) (fun k => l.length - k) 0 ⟨Nat.zero_le _, fun i hi => by omega⟩ (by ((first | refine qen ?_ | refine qvs ?_ | refine qeq ?_ | refine qst ?_ | refine qv ?_ | refine qc ?_ | refine qe ?_ | refine qcs ?_ | skip); (repeat' first | exact rfl | (refine qS ?_; constructor)))) ?_
      intro k hk
      refine Fork.dec (fun hlt => ?_) (fun hlt => ?_)
      · have hlt : k < l.length := by omega
        have hn := hl.n k hlt
        have hFk : F k = (nowB s t l k && togB s f (nxS s t (l.getD k 0)) (wo l k)) := by rw [hF]
        have c1 := C223w (l := l) (k := k) (f := fun i => r1 (l.getD i 0)) (g := fun i => r1 (l.getD (k + 1 + i) 0)) (fun i _ => rfl) (fun i _ => rfl) rfl rfl ⟨hlt, by omega⟩
        (repeat' first | (refine Owe.same ?_; first | refine Owe.o ?_ | refine Owe.mk ?_ ?_) | (refine Fork.same ?_; (first | refine fkY ?_ | refine fkF ?_ | ((first | refine fkD ?_ ?_ | refine fkN ?_ ?_ | refine fkM ?_ ?_) <;> intro h))) | ((first | refine OpsL.same ?_ | refine OpsDL.same ?_); first | refine oK c1 rfl rfl rfl ?_) | refine MvQ.stay ?_)
        refine Ops.cs rfl rfl (CallS.of fn158 rfl ?_)
        (repeat' first | (refine Owe.same ?_; first | refine Owe.o ?_ | refine Owe.mk ?_ ?_) | (refine Fork.same ?_; (first | refine fkD ?_ ?_ | refine fkN ?_ ?_ | refine fkM ?_ ?_) <;> intro h) | refine MvQ.stay ?_)
        refine Ops.cs rfl rfl (CallS.of fn222 rfl ?_)
        (repeat' first | (refine Owe.same ?_; first | refine Owe.o ?_ | refine Owe.mk ?_ ?_) | (refine Fork.same ?_; (first | refine fkD ?_ ?_ | refine fkN ?_ ?_ | refine fkM ?_ ?_) <;> intro h) | refine MvQ.stay ?_)
        refine Sat.lp (fun j : Nat => ⟨[(8, vi .i64 j), (7, vi .i64 (tkA s (l.getD k 0)).a.length), (6, .c (ints (tkA s (l.getD k 0)).a)), (0, .c (ints (tkA s (l.getD k 0)).a)), (1, .c (.fn 224 [8]))], [(8, .box [ints (wo l k)])], 10⟩) (fun j => j ≤ (tkA s (l.getD k 0)).a.length ∧ ∀ i, i < j → decide ((tkA s (l.getD k 0)).a.getD i 0 ∈ wo l k) = false) (fun j => (tkA s (l.getD k 0)).a.length - j) 0 [] ⟨Nat.zero_le _, fun i hi => by omega⟩ ?_ ?_
        · (refine qis ?_ ?_ <;> (repeat' first | exact rfl | (refine qS ?_; constructor)))
        · intro j hj
          have hal : (tkA s (l.getD k 0)).a.length ≤ 1000000 := (hs (l.getD k 0).toNat (by omega)).2
          refine Fork.dec (fun hlj => ?_) (fun hlj => ?_)
          · have hlj : j < (tkA s (l.getD k 0)).a.length := by omega
            have c2 := C186 (l := wo l k) (n := (tkA s (l.getD k 0)).a.getD j 0) (by have := wo_len hlt; omega)
            (repeat' first | (refine Owe.same ?_; first | refine Owe.o ?_ | refine Owe.mk ?_ ?_) | (refine Fork.same ?_; (first | refine fkD ?_ ?_ | refine fkN ?_ ?_ | refine fkM ?_ ?_) <;> intro h) | refine MvQ.stay ?_)
            refine Ops.cs rfl rfl (CallS.of fn224 rfl ?_)
            (repeat' first | (refine Owe.same ?_; first | refine Owe.o ?_ | refine Owe.mk ?_ ?_) | (refine Fork.same ?_; (first | refine fkY ?_ | refine fkF ?_ | ((first | refine fkD ?_ ?_ | refine fkN ?_ ?_ | refine fkM ?_ ?_) <;> intro h))) | ((first | refine OpsL.same ?_ | refine OpsDL.same ?_); first | refine oK c2 rfl rfl rfl ?_) | refine MvQ.stay ?_)
            · have h : (tkA s (l.getD k 0)).a.getD j 0 ∈ wo l k := h
              have hw : (tkA s (l.getD k 0)).a.any (fun m => decide (m ∈ wo l k)) = true := List.any_eq_true.2 ⟨_, getD_mem 0 hlj, decide_eq_true h⟩
              rw [nowB, hw] at hFk
              exact again0 (k + 1) ⟨hlt, succ_all hk.2 hFk⟩ (by omega) (by ((first | refine qen ?_ | refine qvs ?_ | refine qeq ?_ | refine qst ?_ | refine qv ?_ | refine qc ?_ | refine qe ?_ | refine qcs ?_ | skip); (repeat' first | exact rfl | (refine qS ?_; constructor))))
            · have h : ¬ (tkA s (l.getD k 0)).a.getD j 0 ∈ wo l k := h
              refine again (j + 1) [] ⟨hlj, succ_all hj.2 (decide_eq_false h)⟩ (by omega) ?_
              (refine qis ?_ ?_ <;> (repeat' first | exact rfl | (refine qS ?_; constructor)))
          · have hjl : j = (tkA s (l.getD k 0)).a.length := by omega
            have hw : (tkA s (l.getD k 0)).a.any (fun m => decide (m ∈ wo l k)) = false := List.any_eq_false.2 fun x hx => by
              obtain ⟨i, hi, e⟩ := List.getElem_of_mem hx
              have := hj.2 i (by omega)
              rw [List.getD_eq_getElem?_getD, List.getElem?_eq_getElem hi] at this
              rw [← e]; simpa using this
            rw [nowB, hw] at hFk
            have hx : l.getD k 0 ∉ t.d := hl.d _ (getD_mem 0 hlt)
            have c3 := C225 (s := s) (t := t) (n := l.getD k 0) ⟨h, by have := h.dl; omega, hn⟩
            (repeat' first | (refine Owe.same ?_; first | refine Owe.o ?_ | refine Owe.mk ?_ ?_) | (refine Fork.same ?_; (first | refine fkY ?_ | refine fkF ?_ | ((first | refine fkD ?_ ?_ | refine fkN ?_ ?_ | refine fkM ?_ ?_) <;> intro h))) | ((first | refine OpsL.same ?_ | refine OpsDL.same ?_); first | refine oK C46 rfl rfl rfl ?_) | refine MvQ.stay ?_)
            by_cases hz : nxE s t (l.getD k 0) = 0
            · obtain ⟨h1, h2, h3⟩ := nxS_ok h hn hx hz
              have c4 := C159 hs f h1 (hl.wo hlt h3) (by have := wo_len hlt; omega)
              rw [decide_eq_true hz] at hFk
              rw [hz] at c3
              generalize nxS s t (l.getD k 0) = X at *
              generalize togB s f X (wo l k) = b at *
              (repeat' first | (refine Owe.same ?_; first | refine Owe.o ?_ | refine Owe.mk ?_ ?_) | (refine Fork.same ?_; (first | refine fkY ?_ | refine fkF ?_ | ((first | refine fkD ?_ ?_ | refine fkN ?_ ?_ | refine fkM ?_ ?_) <;> intro h))) | ((first | refine OpsL.same ?_ | refine OpsDL.same ?_); first | refine oK c3 rfl rfl rfl ?_) | refine MvQ.stay ?_)
              (repeat' first | (refine Owe.same ?_; first | refine Owe.o ?_ | refine Owe.mk ?_ ?_) | (refine Fork.same ?_; (first | refine fkY ?_ | refine fkF ?_ | ((first | refine fkD ?_ ?_ | refine fkN ?_ ?_ | refine fkM ?_ ?_) <;> intro h))) | ((first | refine OpsL.same ?_ | refine OpsDL.same ?_); first | refine oK c4 rfl rfl rfl ?_) | refine MvQ.stay ?_)
              · have hb : b = true := by simpa using h
                subst hb
                rw [anyN_t hlt hFk] at hq
                subst hq
                (refine rqK rfl ?_; (repeat' first | exact rfl | (refine qS ?_; constructor)))
              · have hb : b = false := by simpa using h
                subst hb
                exact again0 (k + 1) ⟨hlt, succ_all hk.2 hFk⟩ (by omega) (by ((first | refine qen ?_ | refine qvs ?_ | refine qeq ?_ | refine qst ?_ | refine qv ?_ | refine qc ?_ | refine qe ?_ | refine qcs ?_ | skip); (repeat' first | exact rfl | (refine qS ?_; constructor))))
            · rw [decide_eq_false hz] at hFk
              generalize nxE s t (l.getD k 0) = E at *
              (repeat' first | (refine Owe.same ?_; first | refine Owe.o ?_ | refine Owe.mk ?_ ?_) | (refine Fork.same ?_; (first | refine fkY ?_ | refine fkF ?_ | ((first | refine fkD ?_ ?_ | refine fkN ?_ ?_ | refine fkM ?_ ?_) <;> intro h))) | ((first | refine OpsL.same ?_ | refine OpsDL.same ?_); first | refine oK c3 rfl rfl rfl ?_) | refine MvQ.stay ?_)
              have hFk : F k = false := by rw [hFk]; simp
              exact again0 (k + 1) ⟨hlt, succ_all hk.2 hFk⟩ (by omega) (by ((first | refine qen ?_ | refine qvs ?_ | refine qeq ?_ | refine qst ?_ | refine qv ?_ | refine qc ?_ | refine qe ?_ | refine qcs ?_ | skip); (repeat' first | exact rfl | (refine qS ?_; constructor))))
      · have : k = l.length := by omega
        subst this
        rw [anyN_f.2 hk.2] at hq
        subst hq
        (repeat' first | (refine Owe.same ?_; first | refine Owe.o ?_ | refine Owe.mk ?_ ?_) | (refine Fork.same ?_; (first | refine fkD ?_ ?_ | refine fkN ?_ ?_ | refine fkM ?_ ?_) <;> intro h) | refine MvQ.stay ?_)
        (refine rqK rfl ?_; (repeat' first | exact rfl | (refine qS ?_; constructor)))
theorem C26 {t : St8} : PFD Tryz.prog 26 [stv t] (vbl (decide ((t.d.length : Int) ≤ 8))) := by
  refine pi1 fn26 ?_
  (repeat' first | (refine Owe.same ?_; first | refine Owe.o ?_ | refine Owe.mk ?_ ?_) | (refine Fork.same ?_; (first | refine fkD ?_ ?_ | refine fkN ?_ ?_ | refine fkM ?_ ?_) <;> intro h) | refine MvQ.stay ?_)
  (refine rqK rfl ?_; (repeat' first | exact rfl | (refine qS ?_; constructor)))
abbrev fewT (l : List Tk) : Prop := (l.length : Int) ≤ 8 ∧ ∀ i, i < l.length → ((l.getD i tk0).n.size : Int) ≤ 20 ∧ ((l.getD i tk0).a.length : Int) ≤ 8
theorem C25 {l : List Tk} : PFD Tryz.prog 25 [.c (tks l)] (vbl (decide (fewT l))) := by
  refine pi1 fn25 ?_
  (repeat' first | (refine Owe.same ?_; first | refine Owe.o ?_ | refine Owe.mk ?_ ?_) | (refine Fork.same ?_; (first | refine fkD ?_ ?_ | refine fkN ?_ ?_ | refine fkM ?_ ?_) <;> intro h) | refine MvQ.stay ?_)
  · (refine rqK rfl ?_; (repeat' first | exact rfl | (refine qS ?_; constructor))); simp only [decide_eq_false_iff_not]; intro hh; exact absurd hh.1 (by omega)
  · have h8 : l.length ≤ 8 := by omega
    clear h
    refine Sat.lp0 (fun k : Nat => [(3, vi .i64 k), (0, .c (tks l))]) (fun k => k ≤ l.length ∧ ∀ i, i < k → ((l.getD i tk0).n.size : Int) ≤ 20 ∧ ((l.getD i tk0).a.length : Int) ≤ 8) (fun k => l.length - k) 0 ⟨Nat.zero_le _, fun i hi => by omega⟩ (by ((first | refine qen ?_ | refine qvs ?_ | refine qeq ?_ | refine qst ?_ | refine qv ?_ | refine qc ?_ | refine qe ?_ | refine qcs ?_ | skip); (repeat' first | exact rfl | (refine qS ?_; constructor)))) ?_
    intro k hk
    refine Fork.dec (fun hlt => ?_) (fun hlt => ?_)
    · have hlt : k < l.length := by omega
      (repeat' first | (refine Owe.same ?_; first | refine Owe.o ?_ | refine Owe.mk ?_ ?_) | (refine Fork.same ?_; (first | refine fkD ?_ ?_ | refine fkN ?_ ?_ | refine fkM ?_ ?_) <;> intro h) | refine MvQ.stay ?_)
      · (refine rqK rfl ?_; (repeat' first | exact rfl | (refine qS ?_; constructor))); simp only [decide_eq_false_iff_not]
        intro hh; have := (hh.2 k hlt).1; simp only [Int.toNat_natCast] at h; omega
      · (refine rqK rfl ?_; (repeat' first | exact rfl | (refine qS ?_; constructor))); simp only [decide_eq_false_iff_not]
        intro hh; have := (hh.2 k hlt).2; simp only [Int.toNat_natCast] at h; omega
      · rename_i h1
        simp only [Int.toNat_natCast] at h h1
        exact again0 (k + 1) ⟨hlt, succ_all hk.2 ⟨by omega, by omega⟩⟩ (by omega) (by ((first | refine qen ?_ | refine qvs ?_ | refine qeq ?_ | refine qst ?_ | refine qv ?_ | refine qc ?_ | refine qe ?_ | refine qcs ?_ | skip); (repeat' first | exact rfl | (refine qS ?_; constructor))))
    · have : k = l.length := by omega
      subst this
      (repeat' first | (refine Owe.same ?_; first | refine Owe.o ?_ | refine Owe.mk ?_ ?_) | (refine Fork.same ?_; (first | refine fkD ?_ ?_ | refine fkN ?_ ?_ | refine fkM ?_ ?_) <;> intro h) | refine MvQ.stay ?_)
      (refine rqK rfl ?_; (repeat' first | exact rfl | (refine qS ?_; constructor)))
      exact decide_eq_true ⟨by omega, hk.2⟩
structure Few (s : Si) : Prop where
  t : fewT s.tk
  h : (s.ho.length : Int) ≤ 7
  r : (s.tr.length : Int) ≤ 7
  i : (s.ti.length : Int) ≤ 8
  a : ∀ i, i < s.tr.length → ((s.tr.getD i []).length : Int) ≤ 7
abbrev fewP (s : Si) : Prop := fewT s.tk ∧ (s.ho.length : Int) ≤ 7 ∧ (s.tr.length : Int) ≤ 7 ∧ (s.ti.length : Int) ≤ 8 ∧ ∀ i, i < s.tr.length → ((s.tr.getD i []).length : Int) ≤ 7
theorem Few.of {s : Si} (h : fewP s) : Few s := ⟨h.1, h.2.1, h.2.2.1, h.2.2.2.1, h.2.2.2.2⟩
abbrev tkC (t : Tk) : List C := [str t.n, int t.p, int t.d, int t.w, int t.o, int t.v, int t.lo, int t.hi, ints t.a]
abbrev rgP (t : Tk) : Prop := ((0 ≤ t.p ∧ t.p ≤ 4) ∧ isN t.d ∧ isN t.w ∧ isN t.o ∧ isN t.v) ∧ isT t.lo ∧ isT t.hi
theorem odd4 {a b c d : Int} : oddI [a, b, c, d] = false ↔ isN a ∧ isN b ∧ isN c ∧ isN d := by
  simp [oddI]
theorem tkE_n {l : List Tk} {k : Nat} (h : ¬ nmP (l.getD k tk0).n) : tkE l k = 4 := by
  have e : tkF l k (l.getD k tk0) = 4 := by rw [tkF, unl, decide_eq_false h]; rfl
  rw [tkE, e]; rfl
theorem tkE_k {l : List Tk} {k : Nat} (h : nmP (l.getD k tk0).n) (h1 : knB l k (l.getD k tk0).n = true) : tkE l k = 5 := by
  have e : tkF l k (l.getD k tk0) = 5 := by rw [tkF, h1, unl, decide_eq_true h]; rfl
  rw [tkE, e]; rfl
theorem fst_00 {b : Bool} {x : Int} : fstE [0, 0, unb b 2, x] = if b = true then x else 2 := by
  cases b
  · rfl
  · show (if x = 0 then 0 else x) = x
    split
    · rename_i h; exact h.symm
    · rfl
theorem tksE_eq {lo hi : Int} : tksE lo hi = if isT lo ∧ isT hi then unl (lo ≤ hi) 9 else 2 := by
  rw [tksE]
  by_cases h : isT lo ∧ isT hi
  · rw [if_pos h, unl, decide_eq_true h]
    by_cases h1 : lo ≤ hi
    · rw [unl, decide_eq_true h1]; rfl
    · rw [unl, decide_eq_false h1]; rfl
  · rw [if_neg h, unl, decide_eq_false h]; rfl
theorem tkE_g {l : List Tk} {k : Nat} (h : nmP (l.getD k tk0).n) (h1 : knB l k (l.getD k tk0).n = false) : tkF l k (l.getD k tk0) = if rgP (l.getD k tk0) then unl ((l.getD k tk0).lo ≤ (l.getD k tk0).hi) 9 else 2 := by
  rw [tkF, h1, unl, decide_eq_true h]
  generalize l.getD k tk0 = t
  show fstE [0, 0, unb _ 2, _] = _
  rw [fst_00, tksE_eq]
  by_cases h2 : 0 ≤ t.p ∧ t.p ≤ 4
  · rcases ho : oddI [t.d, t.w, t.o, t.v] with _ | _
    · have h3 := odd4.1 ho
      rw [decide_eq_true h2, if_pos (show (true && !false) = true from rfl)]
      by_cases h4 : isT t.lo ∧ isT t.hi
      · rw [if_pos h4, if_pos ⟨⟨h2, h3⟩, h4⟩]
      · rw [if_neg h4, if_neg (fun hh => h4 hh.2)]
    · rw [if_neg (by simp), if_neg]
      rintro ⟨⟨_, h3⟩, _⟩
      rw [odd4.2 h3] at ho; cases ho
  · rw [decide_eq_false h2, if_neg (by simp), if_neg (fun hh => h2 hh.1.1)]
theorem tkE_r {l : List Tk} {k : Nat} (h : nmP (l.getD k tk0).n) (h1 : knB l k (l.getD k tk0).n = false) (h2 : ¬ rgP (l.getD k tk0)) : tkE l k = 2 := by
  have e := tkE_g h h1
  rw [if_neg h2] at e
  rw [tkE, e]; rfl
theorem tkE_o {l : List Tk} {k : Nat} (h : nmP (l.getD k tk0).n) (h1 : knB l k (l.getD k tk0).n = false) (h2 : rgP (l.getD k tk0)) (h3 : ¬ (l.getD k tk0).lo ≤ (l.getD k tk0).hi) : tkE l k = 9 := by
  have e := tkE_g h h1
  rw [if_pos h2, unl, decide_eq_false h3] at e
  rw [tkE, e]; rfl
theorem tkE_a {l : List Tk} {k : Nat} (h : nmP (l.getD k tk0).n) (h1 : knB l k (l.getD k tk0).n = false) (h2 : rgP (l.getD k tk0)) (h3 : (l.getD k tk0).lo ≤ (l.getD k tk0).hi) : tkE l k = (ascE (l.getD k tk0).a k).2 := by
  have e := tkE_g h h1
  rw [if_pos h2, unl, decide_eq_true h3] at e
  rw [tkE, e]; rfl
theorem ascN_6 {l : List Int} {b : Int} {j : Nat} (h : ¬ (0 ≤ l.getD j 0 ∧ l.getD j 0 ≤ b - 1)) : ascN l b j = 6 := by
  rw [ascN, unl, decide_eq_false h]; rfl
theorem ascN_9 {l : List Int} {b : Int} {j : Nat} (h : 0 ≤ l.getD j 0 ∧ l.getD j 0 ≤ b - 1) (hj : 0 < j) (h1 : l.getD j 0 ≤ l.getD (j - 1) 0) : ascN l b j = 9 := by
  rw [ascN, unl, decide_eq_true h, lastI, if_neg (by omega), unl, decide_eq_false (by omega)]; rfl
theorem ascN_0 {l : List Int} {b : Int} {j : Nat} (h : 0 ≤ l.getD j 0 ∧ l.getD j 0 ≤ b - 1) (h1 : 0 < j → l.getD (j - 1) 0 < l.getD j 0) : ascN l b j = 0 := by
  rw [ascN, fst2, unl0 (by decide), unl0 (by decide)]
  refine ⟨h, ?_⟩
  rw [lastI]
  split
  · omega
  · exact h1 (by omega)
theorem C45 {l : List Tk} : (l.length ≤ 1000000 ∧ TkSm l) → PFD Tryz.prog 45 [.c (tks l)] (.tup [vi .i64 (tsE l).1, vi .i64 (tsE l).2]) := fun ⟨hl, hs⟩ => by
  obtain ⟨q, hq⟩ : ∃ q, q = tsE l := ⟨_, rfl⟩
  rw [← hq]
  rw [tsE] at hq
  refine pi2 fn45 ?_
  (repeat' first | (refine Owe.same ?_; first | refine Owe.o ?_ | refine Owe.mk ?_ ?_) | (refine Fork.same ?_; (first | refine fkD ?_ ?_ | refine fkN ?_ ?_ | refine fkM ?_ ?_) <;> intro h) | refine MvQ.stay ?_)
  · rw [if_pos (by omega)] at hq; subst hq; (refine rqK rfl ?_; (repeat' first | exact rfl | (refine qS ?_; constructor)))
  · rw [if_neg (by omega)] at hq
    clear h
    have hret : ∀ {k}, k < l.length → (∀ i, i < k → tkE l i = 0) → ∀ {e}, tkE l k = e → ¬ e = 0 → q = ((k : Int), e) := fun hk h1 e he h2 => by
      have h3 := eachN_e hk h1 (by rw [he]; exact h2)
      rw [h3, he] at hq; exact hq
    refine Sat.lp0 (fun k : Nat => [(4, vi .i64 k), (0, .c (tks l))]) (fun k => k ≤ l.length ∧ ∀ i, i < k → tkE l i = 0) (fun k => l.length - k) 0 ⟨Nat.zero_le _, fun i hi => by omega⟩ (by ((first | refine qen ?_ | refine qvs ?_ | refine qeq ?_ | refine qst ?_ | refine qv ?_ | refine qc ?_ | refine qe ?_ | refine qcs ?_ | skip); (repeat' first | exact rfl | (refine qS ?_; constructor)))) ?_
    intro k hk
    refine Fork.dec (fun hlt => ?_) (fun hlt => ?_)
    · have hlt : k < l.length := by omega
      obtain ⟨s1, s2⟩ := hs k hlt
      have hret := fun {e} => @hret k hlt hk.2 e
      have c1 := C117 (s := (l.getD k tk0).n) s1
      (repeat' first | (refine Owe.same ?_; first | refine Owe.o ?_ | refine Owe.mk ?_ ?_) | (refine Fork.same ?_; (first | refine fkD ?_ ?_ | refine fkN ?_ ?_ | refine fkM ?_ ?_) <;> intro h) | ((first | refine OpsL.same ?_ | refine OpsDL.same ?_); first | refine pK c1 rfl rfl ?_) | refine MvQ.stay ?_)
      · have hx := hret (tkE_n (by simpa using h)) (by decide)
        subst hx; (refine rqK rfl ?_; (repeat' first | exact rfl | (refine qS ?_; constructor)))
      · have hn : nmP (l.getD k tk0).n := by simpa using h
        clear h
        refine Sat.lp (fun j : Nat => ⟨[(6, vi .i64 j), (5, .c (.bp 0 0)), (4, vi .i64 k), (0, .c (tks l))], [(0, .box (tkC (l.getD k tk0)))], 1⟩) (fun j => j ≤ k ∧ ∀ i, i < j → decide ((l.getD i tk0).n.data.toList = (l.getD k tk0).n.data.toList) = false) (fun j => k - j) 0 [0] ⟨Nat.zero_le _, fun i hi => by omega⟩ ?_ ?_
        · (refine qis ?_ ?_ <;> (repeat' first | exact rfl | (refine qS ?_; constructor)))
        · intro j hj
          refine Fork.dec (fun hlj => ?_) (fun hlj => ?_)
          · have hlj : j < k := by omega
            (repeat' first | (refine Owe.same ?_; first | refine Owe.o ?_ | refine Owe.mk ?_ ?_) | (refine Fork.same ?_; (first | refine fkD ?_ ?_ | refine fkN ?_ ?_ | refine fkM ?_ ?_) <;> intro h) | refine MvQ.stay ?_)
            · have h : (l.getD j tk0).n.data.toList = (l.getD k tk0).n.data.toList := h
              have hx := hret (tkE_k hn (anyN_t hlj (decide_eq_true h))) (by decide)
              subst hx; (refine rqK rfl ?_; (repeat' first | exact rfl | (refine qS ?_; constructor)))
            · have h : ¬ (l.getD j tk0).n.data.toList = (l.getD k tk0).n.data.toList := h
              refine again (j + 1) [0] ⟨hlj, succ_all hj.2 (decide_eq_false h)⟩ (by omega) ?_
              (refine qis ?_ ?_ <;> (repeat' first | exact rfl | (refine qS ?_; constructor)))
          · have : j = k := by omega
            subst this
            have hkn := anyN_f.2 hj.2
            have hr := tkE_r hn hkn
            have ho := tkE_o hn hkn
            have ha := tkE_a hn hkn
            (repeat' first | (refine Owe.same ?_; first | refine Owe.o ?_ | refine Owe.mk ?_ ?_) | (refine Fork.same ?_; (first | refine fkD ?_ ?_ | refine fkN ?_ ?_ | refine fkM ?_ ?_) <;> intro h) | ((first | refine OpsL.same ?_ | refine OpsDL.same ?_); first | refine pK C46 rfl rfl ?_ | refine pK C118 rfl rfl ?_ | refine pK C119 rfl rfl ?_) | refine MvQ.stay ?_)
            all_goals try (
              have hx := hret (hr (fun hh => by
                obtain ⟨⟨g1, g2, g3, g4, g5⟩, g6, g7⟩ := hh
                first | exact h g1 | exact h g2 | exact h g3 | exact h g4 | exact h g5 | exact h g6 | exact h g7)) (by decide)
              subst hx
              (refine rqK rfl ?_; (repeat' first | exact rfl | (refine qS ?_; constructor)))
              done)
            all_goals
              obtain ⟨g7, g6, g5, g4, g3, g2, g1⟩ := (show _ ∧ _ ∧ _ ∧ _ ∧ _ ∧ _ ∧ _ from ⟨by assumption, by assumption, by assumption, by assumption, by assumption, by assumption, by assumption⟩ : isT (l.getD j tk0).hi ∧ isT (l.getD j tk0).lo ∧ isN (l.getD j tk0).v ∧ isN (l.getD j tk0).o ∧ isN (l.getD j tk0).w ∧ isN (l.getD j tk0).d ∧ (0 ≤ (l.getD j tk0).p ∧ (l.getD j tk0).p ≤ 4))
              have hg : rgP (l.getD j tk0) := ⟨⟨g1, g2, g3, g4, g5⟩, g6, g7⟩
            · have h : (l.getD j tk0).hi < (l.getD j tk0).lo := h
              have hx := hret (ho hg (by omega)) (by decide)
              subst hx
              (refine rqK rfl ?_; (repeat' first | exact rfl | (refine qS ?_; constructor)))
            · have h : ¬ (l.getD j tk0).hi < (l.getD j tk0).lo := h
              have ha := ha hg (by omega)
              clear hr ho hj hkn hlj
              refine Sat.lp (fun m : Nat => ⟨[(7, vi .i64 m), (5, .c (.bp 0 0)), (4, vi .i64 j), (0, .c (tks l))], [(0, .box (tkC (l.getD j tk0)))], 1⟩) (fun m => m ≤ (l.getD j tk0).a.length ∧ ∀ i, i < m → ascN (l.getD j tk0).a j i = 0) (fun m => (l.getD j tk0).a.length - m) 0 [0] ⟨Nat.zero_le _, fun i hi => by omega⟩ ?_ ?_
              · (refine qis ?_ ?_ <;> (repeat' first | exact rfl | (refine qS ?_; constructor)))
              · intro m hm
                refine Fork.dec (fun hlm => ?_) (fun hlm => ?_)
                · have hlm : m < (l.getD j tk0).a.length := by omega
                  have hr : ∀ {e}, ascN (l.getD j tk0).a j m = e → ¬ e = 0 → q = ((j : Int), e) := fun he h2 => by
                    refine hret ?_ h2
                    rw [ha, ascE, eachN_e hlm hm.2 (by rw [he]; exact h2)]
                    exact he
                  (repeat' first | (refine Owe.same ?_; first | refine Owe.o ?_ | refine Owe.mk ?_ ?_) | (refine Fork.same ?_; (first | refine fkD ?_ ?_ | refine fkN ?_ ?_ | refine fkM ?_ ?_) <;> intro h) | ((first | refine OpsL.same ?_ | refine OpsDL.same ?_); first | refine pK C46 rfl rfl ?_) | refine MvQ.stay ?_)
                  · have hx := hr (ascN_6 h) (by decide)
                    subst hx
                    (refine rqK rfl ?_; (repeat' first | exact rfl | (refine qS ?_; constructor)))
                  · have hx := hr (ascN_9 ‹_› (by omega) (by rw [show m - 1 = ((m : Int) - 1).toNat by omega]; exact h)) (by decide)
                    subst hx
                    (refine rqK rfl ?_; (repeat' first | exact rfl | (refine qS ?_; constructor)))
                  · have h0 := ascN_0 (l := (l.getD j tk0).a) (b := j) (j := m) ‹_› (fun _ => by
                      have h : ¬ (l.getD j tk0).a.getD m 0 ≤ (l.getD j tk0).a.getD ((m : Int) - 1).toNat 0 := h
                      rw [show m - 1 = ((m : Int) - 1).toNat by omega]; omega)
                    refine again (m + 1) [0] ⟨hlm, succ_all hm.2 h0⟩ (by omega) ?_
                    (refine qis ?_ ?_ <;> (repeat' first | exact rfl | (refine qS ?_; constructor)))
                  · have h0 := ascN_0 (l := (l.getD j tk0).a) (b := j) (j := m) ‹_› (fun hh => by omega)
                    refine again (m + 1) [0] ⟨hlm, succ_all hm.2 h0⟩ (by omega) ?_
                    (refine qis ?_ ?_ <;> (repeat' first | exact rfl | (refine qS ?_; constructor)))
                · have : m = (l.getD j tk0).a.length := by omega
                  subst this
                  rw [ascE, eachN_z hm.2] at ha
                  (repeat' first | (refine Owe.same ?_; first | refine Owe.o ?_ | refine Owe.mk ?_ ?_) | (refine Fork.same ?_; (first | refine fkD ?_ ?_ | refine fkN ?_ ?_ | refine fkM ?_ ?_) <;> intro h) | refine MvQ.stay ?_)
                  exact again0 (j + 1) ⟨hlt, succ_all hk.2 ha⟩ (by omega) (by ((first | refine qen ?_ | refine qvs ?_ | refine qeq ?_ | refine qst ?_ | refine qv ?_ | refine qc ?_ | refine qe ?_ | refine qcs ?_ | skip); (repeat' first | exact rfl | (refine qS ?_; constructor))))
    · have : k = l.length := by omega
      subst this
      rw [eachN_z hk.2] at hq
      subst hq
      (repeat' first | (refine Owe.same ?_; first | refine Owe.o ?_ | refine Owe.mk ?_ ?_) | (refine Fork.same ?_; (first | refine fkD ?_ ?_ | refine fkN ?_ ?_ | refine fkM ?_ ?_) <;> intro h) | refine MvQ.stay ?_)
      (refine rqK rfl ?_; (repeat' first | exact rfl | (refine qS ?_; constructor)))
end Go.Pw
set_option linter.unusedSimpArgs false
set_option linter.unusedVariables false
set_option maxHeartbeats 4000000
namespace Go.Pw
set_option maxRecDepth 2000
open Go Go.Proofs A1 A2 A3 A4
end Go.Pw

set_option linter.unusedVariables false
set_option maxHeartbeats 2000000
set_option maxRecDepth 100000
namespace Go.Pw
open Go Go.Proofs
end Go.Pw

set_option linter.unusedSimpArgs false
set_option linter.unusedVariables false
set_option maxHeartbeats 4000000
namespace Go.Pw
set_option maxRecDepth 2000
open Go Go.Proofs A1 A2 A3 A4
theorem C32 {l : List Int} : l.length ≤ 1000000 → PFD Tryz.prog 32 [.c (ints l)] (.c (ints l)) := fun h => by
  refine pi1 fn32 ?_
  (repeat' first | (refine Owe.same ?_; first | refine Owe.o ?_ | refine Owe.mk ?_ ?_) | (refine Fork.same ?_; (first | refine fkD ?_ ?_ | refine fkN ?_ ?_ | refine fkM ?_ ?_) <;> intro h) | refine MvQ.stay ?_)
  (refine rqK rfl ?_; (repeat' first | exact rfl | (refine qS ?_; constructor)))
theorem C30 {t : St8} : t.d.length ≤ 1000000 → PFD Tryz.prog 30 [stv t] (stv t) := fun h => by
  have c1 := C32 (l := t.d) h
  refine pi1 fn30 ?_
  (repeat' first | (refine Owe.same ?_; first | refine Owe.o ?_ | refine Owe.mk ?_ ?_) | (refine Fork.same ?_; (first | refine fkD ?_ ?_ | refine fkN ?_ ?_ | refine fkM ?_ ?_) <;> intro h) | ((first | refine OpsL.same ?_ | refine OpsDL.same ?_); first | refine pK c1 rfl rfl ?_) | refine MvQ.stay ?_)
  (refine rqK rfl ?_; (repeat' first | exact rfl | (refine qS ?_; constructor)))
theorem C28 {l : List Tk} : (l.length ≤ 1000000 ∧ TkSm l) → PFD Tryz.prog 28 [.c (tks l)] (.c (tks l)) := fun ⟨hl, hs⟩ => by
  refine pi1 fn28 ?_
  (repeat' first | (refine Owe.same ?_; first | refine Owe.o ?_ | refine Owe.mk ?_ ?_) | (refine Fork.same ?_; (first | refine fkD ?_ ?_ | refine fkN ?_ ?_ | refine fkM ?_ ?_) <;> intro h) | refine MvQ.stay ?_)
  refine Sat.nilS 3 182 9 (fun i => tkr (([] : List Tk).getD i tk0)) rfl ?_
  refine Sat.lp (fun k : Nat => ⟨[(4, vi .i64 k), (0, .c (tks l)), (3, .c (.ms 0 (l.take k).length))], [(0, rowv 182 9 tkr tk0 (l.take k))], 1⟩) (fun k => k ≤ l.length) (fun k => l.length - k) 0 [0] (Nat.zero_le _) ?_ ?_
  · (refine qis ?_ ?_ <;> (repeat' first | exact rfl | (refine qS ?_; constructor)))
  · intro k hk
    refine Fork.dec (fun hlt => ?_) (fun hlt => ?_)
    · have hlt : k < l.length := by omega
      have c1 := C32 (l := (l.getD k tk0).a) (hs k hlt).2
      have hl1 : (l.take k).length = k := by rw [List.length_take]; omega
      have htk : l.take (k + 1) = l.take k ++ [l.getD k tk0] := by
        rw [List.take_add_one, List.getElem?_eq_getElem hlt, List.getD_eq_getElem?_getD, List.getElem?_eq_getElem hlt]; rfl
      (repeat' first | (refine Owe.same ?_; first | refine Owe.o ?_ | refine Owe.mk ?_ ?_) | (refine Fork.same ?_; (first | refine fkD ?_ ?_ | refine fkN ?_ ?_ | refine fkM ?_ ?_) <;> intro h) | ((first | refine OpsL.same ?_ | refine OpsDL.same ?_); first | refine pK c1 rfl rfl ?_) | refine MvQ.stay ?_)
      refine again (k + 1) [2] hlt (by omega) ?_
      rw [htk]
      (refine qis ?_ ?_ <;> (repeat' first | exact rfl | (refine qS ?_; constructor)))
      · simp
      · exact ⟨l.getD k tk0, rfl, rfl⟩
    · have : k = l.length := by omega
      subst this
      (repeat' first | (refine Owe.same ?_; first | refine Owe.o ?_ | refine Owe.mk ?_ ?_) | (refine Fork.same ?_; (first | refine fkD ?_ ?_ | refine fkN ?_ ?_ | refine fkM ?_ ?_) <;> intro h) | refine MvQ.stay ?_)
      rw [List.take_length]
      refine rqF 0 _ rfl rfl rfl ?_; (repeat' first | exact rfl | (refine qS ?_; constructor))
def rsE (s : Si) (t : St8) : Int × Int := if 0 ≤ t.p ∧ t.p ≤ (s.ho.length : Int) - 1 then (if (isT t.t ∧ 0 ≤ t.w ∧ t.w ≤ 100000000) ∧ isN t.o then ascE t.d s.tk.length else (0, 2)) else (0, 6)
theorem rsE_eq {s : Si} {t : St8} (h : (siE s).2 = 0) : stE s t = rsE s t := by
  have e : stF s t = if 0 ≤ t.p ∧ t.p ≤ (s.ho.length : Int) - 1 then (if (isT t.t ∧ 0 ≤ t.w ∧ t.w ≤ 100000000) ∧ isN t.o then 0 else 2) else 6 := by
    rw [stF, h]
    by_cases h1 : 0 ≤ t.p ∧ t.p ≤ (s.ho.length : Int) - 1
    · rw [if_pos h1, unl, decide_eq_true h1]
      by_cases h2 : (isT t.t ∧ 0 ≤ t.w ∧ t.w ≤ 100000000) ∧ isN t.o
      · rw [if_pos h2, stN, unl, decide_eq_true h2]; rfl
      · rw [if_neg h2, stN, unl, decide_eq_false h2]; rfl
    · rw [if_neg h1, unl, decide_eq_false h1]; rfl
  rw [stE, e, rsE]
  by_cases h1 : 0 ≤ t.p ∧ t.p ≤ (s.ho.length : Int) - 1
  · by_cases h2 : (isT t.t ∧ 0 ≤ t.w ∧ t.w ≤ 100000000) ∧ isN t.o
    · simp only [if_pos h1, if_pos h2]; rfl
    · simp only [if_pos h1, if_neg h2]; rfl
  · simp only [if_neg h1]; rfl
theorem onE_eq {s : Si} {t : St8} (h : (siE s).2 = 0) : onE s t = (rsE s t).2 := by
  rw [onE, fstE, if_pos h, fstE, rsE_eq h]
  split
  · rename_i h; rw [h]; rfl
  · rfl
abbrev sameB (a b : St8) : Bool := decide (a.p = b.p ∧ a.t = b.t ∧ a.w = b.w ∧ a.o = b.o ∧ a.d = b.d)
theorem C43 {a b : St8} : a.d.length < 4611686018427387904 → PFD Tryz.prog 43 [stv a, stv b] (vbl (sameB a b)) := fun h => by
  have c1 := C44 (l := a.d) (m := b.d) h
  refine pi1 fn43 ?_
  (repeat' first | (refine Owe.same ?_; first | refine Owe.o ?_ | refine Owe.mk ?_ ?_) | (refine Fork.same ?_; (first | refine fkD ?_ ?_ | refine fkN ?_ ?_ | refine fkM ?_ ?_) <;> intro h) | ((first | refine OpsL.same ?_ | refine OpsDL.same ?_); first | refine pK c1 rfl rfl ?_) | refine MvQ.stay ?_)
  all_goals ((refine rqK rfl ?_; (repeat' first | exact rfl | (refine qS ?_; constructor))); simp only [sameB, decide_eq_decide, decide_eq_false_iff_not, decide_eq_true_eq]; simp_all)
theorem DI.take {l : List Int} {k : Nat} {f : Nat → List D} (hk : k ≤ l.length) (hf : ∀ i, i < k → f i = r1 (l.getD i 0)) : DI (.sl 1 k f) (intsD (l.take k)) := by
  have e : (l.take k).length = k := by rw [List.length_take]; omega
  show DI _ (.sl 1 (l.take k).length _)
  rw [e]
  refine DI.sl fun i hi => ?_
  have e2 : (l.take k).getD i 0 = l.getD i 0 := by simp only [List.getD_eq_getElem?_getD, List.getElem?_take, hi, if_true]
  rw [hf i hi, e2]
  exact DIs.refl _
theorem DI.drop {l : List Int} {k m : Nat} {f : Nat → List D} (hm : m = l.length - k) (hf : ∀ i, i < m → f i = r1 (l.getD (k + i) 0)) : DI (.sl 1 m f) (intsD (l.drop k)) := by
  subst hm
  show DI _ (.sl 1 (l.drop k).length _)
  rw [List.length_drop]
  refine DI.sl fun i hi => ?_
  have e2 : (l.drop k).getD i 0 = l.getD (k + i) 0 := by simp only [List.getD_eq_getElem?_getD, List.getElem?_drop]
  rw [hf i hi, e2]
  exact DIs.refl _
abbrev nuN (s : Si) (l : List Int) (i : Nat) : Int := fstE [unl (0 ≤ l.getD i 0 ∧ l.getD i 0 ≤ (s.tk.length : Int) - 1) 6, unb (!decide (l.getD i 0 ∈ l.take i)) 23]
def nuE (s : Si) (l : List Int) : Int := (eachN (nuN s l) 0 l.length).2
theorem nuE_ok {s : Si} {l : List Int} : nuE s l = 0 ↔ tkNs s l ∧ l.Nodup := by
  rw [nuE, eachN_ok]
  constructor
  · intro h
    have h1 : ∀ i, i < l.length → (0 ≤ l.getD i 0 ∧ l.getD i 0 ≤ (s.tk.length : Int) - 1) ∧ l.getD i 0 ∉ l.take i := fun i hi => by
      have := h i hi
      rw [nuN, fst2, unl0 (by decide), unb_ok (by decide)] at this
      exact ⟨this.1, by simpa using this.2⟩
    refine ⟨fun i hi => by have := (h1 i hi).1; omega, ?_⟩
    rw [List.nodup_iff_pairwise_ne, List.pairwise_iff_getElem]
    intro i j hi hj hij e
    refine (h1 j hj).2 ?_
    rw [List.getD_eq_getElem?_getD, List.getElem?_eq_getElem hj]
    show l[j] ∈ _
    rw [← e]
    have h2 : (l.take j)[i]? = some l[i] := by rw [List.getElem?_take, if_pos hij, List.getElem?_eq_getElem hi]
    exact List.mem_of_getElem? h2
  · rintro ⟨h1, h2⟩ i hi
    rw [nuN, fst2, unl0 (by decide), unb_ok (by decide)]
    refine ⟨by have := h1 i hi; omega, ?_⟩
    rw [Bool.not_eq_true', decide_eq_false_iff_not]
    intro hm
    obtain ⟨j, hj, e⟩ := List.getElem_of_mem hm
    rw [List.length_take] at hj
    rw [List.getElem_take, List.getD_eq_getElem?_getD, List.getElem?_eq_getElem hi] at e
    rw [List.nodup_iff_pairwise_ne, List.pairwise_iff_getElem] at h2
    exact h2 j i (by omega) hi (by omega) e
abbrev dnB (t : St8) (l : List Int) : Bool := l.any fun n => decide (n ∈ t.d)
theorem SetOk.of {s : Si} {t : St8} {l : List Int} (h : nuE s l = 0) (h1 : dnB t l = false) : SetOk s t l where
  n := (nuE_ok.1 h).1
  u := (nuE_ok.1 h).2
  d := fun x hx => by have := List.any_eq_false.1 h1 x hx; simpa using this
abbrev tgB (s : Si) (t : St8) (l : List Int) : Bool := togB s l.length t l
theorem bit_i64 {b i : Nat} (hb : b < 2 ^ 62) (hi : i < 64) : decide (IntKind.i64.wrap ((BitVec.ofInt IntKind.i64.bits ((b : Int).fdiv (2 ^ min (Int.toNat (i : Int)) IntKind.i64.bits)) &&& BitVec.ofInt IntKind.i64.bits 1).toNat : Nat) = 1) = b.testBit i := by
  have hbits : IntKind.i64.bits = 64 := rfl
  have e1 : (b : Int).fdiv (2 ^ min (Int.toNat (i : Int)) IntKind.i64.bits) = ((b / 2 ^ i : Nat) : Int) := by
    rw [hbits, Int.toNat_natCast, Nat.min_eq_left (by omega), Int.fdiv_eq_ediv_of_nonneg _ (Int.pow_nonneg (by decide))]
    norm_cast
  rw [e1, Nat.testBit_eq_decide_div_mod_eq]
  have hlt : b / 2 ^ i < 2 ^ 62 := by
    have := Nat.div_le_self b (2 ^ i)
    omega
  generalize b / 2 ^ i = q at hlt ⊢
  have e2 : (BitVec.ofInt IntKind.i64.bits (q : Int) &&& BitVec.ofInt IntKind.i64.bits 1).toNat = q % 2 := by
    rw [BitVec.toNat_and]
    have f1 : (BitVec.ofInt IntKind.i64.bits (q : Int)).toNat = q := by
      rw [BitVec.toNat_ofInt, hbits]; omega
    have f2 : (BitVec.ofInt IntKind.i64.bits 1).toNat = 1 := rfl
    rw [f1, f2, Nat.and_one_is_mod]
  rw [e2]
  have e3 : IntKind.i64.wrap ((q % 2 : Nat) : Int) = ((q % 2 : Nat) : Int) := by
    rcases (show q % 2 = 0 ∨ q % 2 = 1 by omega) with h | h <;> rw [h] <;> rfl
  rw [e3, Bool.eq_iff_iff, decide_eq_true_eq, decide_eq_true_eq]
  omega
theorem shl_i64 {n : Nat} (h : n ≤ 20) : IntKind.i64.wrap (1 * 2 ^ min (Int.toNat (n : Int)) IntKind.i64.bits) = ((2 ^ n : Nat) : Int) := by
  have : n = 0 ∨ n = 1 ∨ n = 2 ∨ n = 3 ∨ n = 4 ∨ n = 5 ∨ n = 6 ∨ n = 7 ∨ n = 8 ∨ n = 9 ∨ n = 10 ∨ n = 11 ∨ n = 12 ∨ n = 13 ∨ n = 14 ∨ n = 15 ∨ n = 16 ∨ n = 17 ∨ n = 18 ∨ n = 19 ∨ n = 20 := by omega
  rcases this with h | h | h | h | h | h | h | h | h | h | h | h | h | h | h | h | h | h | h | h | h <;> subst h <;> decide
theorem fltL_asc {p : Nat → Bool} {n : Nat} : (fltL p n).Pairwise (· < ·) := by
  rw [fltL, List.pairwise_map]
  refine List.Pairwise.filter _ ?_
  exact List.pairwise_lt_range.imp fun h => Int.ofNat_lt.2 h
abbrev subL (n b : Nat) : List Int := fltL (fun i => b.testBit i) n
theorem subL_mem {n b : Nat} {x : Int} (h : x ∈ subL n b) : 0 ≤ x ∧ x < n := by
  simp only [subL, fltL, List.mem_map, List.mem_filter, List.mem_range] at h
  obtain ⟨i, ⟨h1, _⟩, rfl⟩ := h
  omega
theorem subL_nd {n b : Nat} : (subL n b).Nodup := by
  rw [List.nodup_iff_pairwise_ne]
  exact fltL_asc.imp fun h => by omega
abbrev nilO : Option (List Int) → V
  | none => .c (.d (.v (.slice none 0 0)))
  | some l => .c (ints l)
abbrev smO (o : Option (List Int)) (l : List Int) : Bool := match o with
  | none => true
  | some m => decide (fstE [cmpI l.length m.length, cmpL l m] < 0)
abbrev clB (s : Si) (t : St8) (l : List Int) : Bool := !dnB t l && !tgB s t l
def clK (s : Si) (t : St8) (n : Nat) : Nat → Option (List Int)
  | 0 => none
  | b + 1 => if smO (clK s t n b) (subL n b) = true ∧ clB s t (subL n b) = true then some (subL n b) else clK s t n b
abbrev clO (s : Si) (t : St8) : Option (List Int) := clK s t s.tk.length (2 ^ s.tk.length)
def clE (s : Si) (t : St8) : List Int × Int := if onE s t = 0 then (match clO s t with | none => ([], 12) | some l => (l, 0)) else ([], onE s t)
theorem SetOk.sub {s : Si} {t : St8} {b : Nat} (h : dnB t (subL s.tk.length b) = false) : SetOk s t (subL s.tk.length b) where
  n := fun i hi => subL_mem (getD_mem 0 hi)
  u := subL_nd
  d := fun x hx => by have := List.any_eq_false.1 h x hx; simpa using this
theorem clK_len {s : Si} {t : St8} {n : Nat} : ∀ {b : Nat} {l : List Int}, clK s t n b = some l → l.length ≤ n ∧ 0 < l.length
  | 0, l, h => by cases h
  | b + 1, l, h => by
    rw [clK] at h
    split at h
    · rename_i hh
      cases h
      refine ⟨fltL_len _ _, ?_⟩
      rcases Nat.eq_zero_or_pos (subL n b).length with h0 | h0
      · have e := List.eq_nil_of_length_eq_zero h0
        rw [e] at hh
        have := hh.2
        simp [clB, tgB, togB] at this
      · exact h0
    · exact clK_len h
theorem C71 {s : Si} {t : St8} : (SiSm s ∧ t.d.length ≤ 1000000) → PFD Tryz.prog 71 [siv s, stv t] (.tup [.c (ints (clE s t).1), vi .i64 (clE s t).2]) := fun ⟨hs, ht⟩ => by
  have c1 := C156 (s := s) (t := t) ⟨hs, ht⟩
  obtain ⟨q, hq⟩ : ∃ q, q = clE s t := ⟨_, rfl⟩
  rw [← hq]
  rw [clE] at hq
  by_cases h0 : onE s t = 0
  · rw [if_pos h0, clO] at hq
    rw [h0] at c1
    have hO := OnOk.of h0
    have hn := hO.ok.n
    have hshl := shl_i64 (n := s.tk.length) (by omega)
    have hpow : 2 ^ s.tk.length ≤ 2 ^ 6 := Nat.pow_le_pow_right (by decide) hn
    have hpos : 1 ≤ 2 ^ s.tk.length := Nat.one_le_two_pow
    obtain ⟨N, hN⟩ : ∃ N, N = 2 ^ s.tk.length := ⟨_, rfl⟩
    rw [← hN] at hshl hpow hq hpos
    have hst : none = clK s t s.tk.length 1 := by
      have e : subL s.tk.length 0 = [] := by
        rw [subL, fltL, List.map_eq_nil_iff, List.filter_eq_nil_iff]; simp
      rw [clK, clK, e, if_neg]
      rintro ⟨_, h⟩
      simp [clB, tgB, togB] at h
    refine pi2 fn71 ?_
    (repeat' first | (refine Owe.same ?_; first | refine Owe.o ?_ | refine Owe.mk ?_ ?_) | (refine Fork.same ?_; (first | refine fkY ?_ | refine fkF ?_ | ((first | refine fkD ?_ ?_ | refine fkN ?_ ?_ | refine fkM ?_ ?_) <;> intro h))) | ((first | refine OpsL.same ?_ | refine OpsDL.same ?_); first | refine oK c1 rfl rfl rfl ?_) | refine MvQ.stay ?_)
    (repeat' first | (refine Owe.same ?_; first | refine Owe.o ?_ | refine Owe.mk ?_ ?_) | (refine Fork.same ?_; (first | refine fkD ?_ ?_ | refine fkN ?_ ?_ | refine fkM ?_ ?_) <;> intro h) | refine MvQ.stay ?_)
    refine Sat.lp (fun ((b, o) : Nat × Option (List Int)) => ⟨[(9, vi .i64 b), (8, nilO o), (2, .c (.rp (siD s))), (6, .c (.bp 0 0))], [(0, .box (diC s t))], 1⟩) (fun ((b, o) : Nat × Option (List Int)) => b ≤ N ∧ o = clK s t s.tk.length b) (fun ((b, _) : Nat × Option (List Int)) => N - b) (1, none) [0] ⟨hpos, hst⟩ ?_ ?_
    · (refine qis ?_ ?_ <;> (repeat' first | exact rfl | (refine qS ?_; constructor)))
    · intro ⟨b, o⟩ ⟨hb, ho⟩
      rcases o with _ | m
      · rcases Nat.lt_or_eq_of_le hb with hbl | rfl
        rotate_left
        · rw [← ho] at hq
          (repeat' first | (refine Owe.same ?_; first | refine Owe.o ?_ | refine Owe.mk ?_ ?_) | (refine Fork.same ?_; (first | refine fkY ?_ | refine fkF ?_ | ((first | refine fkD ?_ ?_ | refine fkN ?_ ?_ | refine fkM ?_ ?_) <;> intro h))) | ((first | refine OpsL.same ?_ | refine OpsDL.same ?_); first | refine oK C152 rfl rfl rfl ?_) | refine MvQ.stay ?_)
          subst hq
          (refine rqK rfl ?_; (repeat' first | exact rfl | (refine qS ?_; constructor)))
        · (repeat' first | (refine Owe.same ?_; first | refine Owe.o ?_ | refine Owe.mk ?_ ?_) | (refine Fork.same ?_; (first | refine fkD ?_ ?_ | refine fkN ?_ ?_ | refine fkM ?_ ?_) <;> intro h) | refine MvQ.stay ?_)
          rotate_left
          · rw [hshl] at h; omega
          · refine Sat.nilS 10 3 1 (fun i => r1 (([] : List Int).getD i 0)) rfl ?_
            refine Sat.lp (fun i : Nat => ⟨[(33, vi .i64 i), (32, vi .i64 s.tk.length), (10, .c (.ms 1 (fltL (fun i => b.testBit i) i).length)), (9, vi .i64 b), (8, nilO none), (2, .c (.rp (siD s))), (6, .c (.bp 0 0))], [(1, rowv 3 1 r1 0 (fltL (fun i => b.testBit i) i)), (0, .box (diC s t))], 2⟩)
              (fun i => i ≤ s.tk.length) (fun i => s.tk.length - i) 0 [0, 1] (Nat.zero_le _) ?_ ?_
            · (refine qis ?_ ?_ <;> (repeat' first | exact rfl | (refine qS ?_; constructor)))
            · intro i hi
              have hfl := fltL_len (fun i => b.testBit i) i
              have hfs := fltL_succ (fun i => b.testBit i) i
              refine Fork.dec (fun hli => ?_) (fun hli => ?_)
              · have hli : i < s.tk.length := by omega
                have htb := bit_i64 (b := b) (i := i) (by omega) (by omega)
                (repeat' first | (refine Owe.same ?_; first | refine Owe.o ?_ | refine Owe.mk ?_ ?_) | (refine Fork.same ?_; (first | refine fkD ?_ ?_ | refine fkN ?_ ?_ | refine fkM ?_ ?_) <;> intro h) | refine MvQ.stay ?_)
                · have h : decide _ = true := decide_eq_true h
                  rw [htb] at h
                  rw [if_pos h] at hfs
                  refine again (i + 1) [0, 2] hli (by omega) ?_
                  (refine qis ?_ ?_ <;> (repeat' first | exact rfl | (refine qS ?_; constructor)))
                  · rw [hfs]; simp
                  · exact hfs
                · have h : decide _ = false := decide_eq_false h
                  rw [htb] at h
                  rw [if_neg (by rw [h]; decide)] at hfs
                  refine again (i + 1) [0, 1] hli (by omega) ?_
                  (refine qis ?_ ?_ <;> (repeat' first | exact rfl | (refine qS ?_; constructor)))
                  · rw [hfs]
                  · rw [hfs]
              · have : i = s.tk.length := by omega
                subst this
                have hsl : (subL s.tk.length b).length ≤ s.tk.length := hfl
                have c3 := C158b (g := 144) (ds := diD s t) (l := subL s.tk.length b) (f := fun i => decide ((subL s.tk.length b).getD i 0 ∈ t.d)) (fun i hi => C144 ht) (by omega)
                rw [anyN_mem (p := fun n => decide (n ∈ t.d))] at c3
                change PFD Tryz.prog 158 _ (vbl (dnB t (subL s.tk.length b))) at c3
                have c4 := fun hd => C159 hs.t (subL s.tk.length b).length hO (SetOk.sub (b := b) hd) (Nat.le_refl _)
                change dnB t (subL s.tk.length b) = false → PFD Tryz.prog 159 _ (vbl (tgB s t (subL s.tk.length b))) at c4
                have hnx : clK s t s.tk.length (b + 1) = if smO (clK s t s.tk.length b) (subL s.tk.length b) = true ∧ clB s t (subL s.tk.length b) = true then some (subL s.tk.length b) else clK s t s.tk.length b := rfl
                rw [← ho] at hnx
                (repeat' first | (refine Owe.same ?_; first | refine Owe.o ?_ | refine Owe.mk ?_ ?_) | (refine Fork.same ?_; (first | refine fkD ?_ ?_ | refine fkN ?_ ?_ | refine fkM ?_ ?_) <;> intro h) | refine MvQ.stay ?_)
                refine OpsL.frz 10 _ rfl rfl (Nat.le_refl _) ?_
                refine OpsL.frz 63 _ rfl rfl (Nat.le_refl _) ?_
                rcases hd : dnB t (subL s.tk.length b) with _ | _
                · rw [hd] at c3
                  have c4 := c4 hd
                  rw [clB, hd] at hnx
                  rcases hg : tgB s t (subL s.tk.length b) with _ | _
                  · rw [hg] at c4 hnx
                    rw [if_pos ⟨rfl, rfl⟩] at hnx
                    (repeat' first | (refine Owe.same ?_; first | refine Owe.o ?_ | refine Owe.mk ?_ ?_) | (refine Fork.same ?_; (first | refine fkY ?_ | refine fkF ?_ | ((first | refine fkD ?_ ?_ | refine fkN ?_ ?_ | refine fkM ?_ ?_) <;> intro h))) | ((first | refine OpsL.same ?_ | refine OpsDL.same ?_); first | refine oK c3 rfl rfl rfl ?_) | refine MvQ.stay ?_)
                    (repeat' first | (refine Owe.same ?_; first | refine Owe.o ?_ | refine Owe.mk ?_ ?_) | (refine Fork.same ?_; (first | refine fkY ?_ | refine fkF ?_ | ((first | refine fkD ?_ ?_ | refine fkN ?_ ?_ | refine fkM ?_ ?_) <;> intro h))) | ((first | refine OpsL.same ?_ | refine OpsDL.same ?_); first | refine oK c4 rfl rfl rfl ?_) | refine MvQ.stay ?_)
                    refine again (b + 1, some (subL s.tk.length b)) [0] ⟨hbl, hnx.symm⟩ (by show N - (b + 1) < N - b; omega) ?_
                    (refine qis ?_ ?_ <;> (repeat' first | exact rfl | (refine qS ?_; constructor)))
                  · rw [hg] at c4 hnx
                    rw [if_neg (by simp)] at hnx
                    (repeat' first | (refine Owe.same ?_; first | refine Owe.o ?_ | refine Owe.mk ?_ ?_) | (refine Fork.same ?_; (first | refine fkY ?_ | refine fkF ?_ | ((first | refine fkD ?_ ?_ | refine fkN ?_ ?_ | refine fkM ?_ ?_) <;> intro h))) | ((first | refine OpsL.same ?_ | refine OpsDL.same ?_); first | refine oK c3 rfl rfl rfl ?_) | refine MvQ.stay ?_)
                    (repeat' first | (refine Owe.same ?_; first | refine Owe.o ?_ | refine Owe.mk ?_ ?_) | (refine Fork.same ?_; (first | refine fkY ?_ | refine fkF ?_ | ((first | refine fkD ?_ ?_ | refine fkN ?_ ?_ | refine fkM ?_ ?_) <;> intro h))) | ((first | refine OpsL.same ?_ | refine OpsDL.same ?_); first | refine oK c4 rfl rfl rfl ?_) | refine MvQ.stay ?_)
                    refine again (b + 1, none) [0] ⟨hbl, hnx.symm⟩ (by show N - (b + 1) < N - b; omega) ?_
                    (refine qis ?_ ?_ <;> (repeat' first | exact rfl | (refine qS ?_; constructor)))
                · rw [hd] at c3
                  rw [clB, hd, if_neg (by simp)] at hnx
                  (repeat' first | (refine Owe.same ?_; first | refine Owe.o ?_ | refine Owe.mk ?_ ?_) | (refine Fork.same ?_; (first | refine fkY ?_ | refine fkF ?_ | ((first | refine fkD ?_ ?_ | refine fkN ?_ ?_ | refine fkM ?_ ?_) <;> intro h))) | ((first | refine OpsL.same ?_ | refine OpsDL.same ?_); first | refine oK c3 rfl rfl rfl ?_) | refine MvQ.stay ?_)
                  refine again (b + 1, none) [0] ⟨hbl, hnx.symm⟩ (by show N - (b + 1) < N - b; omega) ?_
                  (refine qis ?_ ?_ <;> (repeat' first | exact rfl | (refine qS ?_; constructor)))
      · rcases Nat.lt_or_eq_of_le hb with hbl | rfl
        rotate_left
        · rw [← ho] at hq
          have hm := clK_len ho.symm
          (repeat' first | (refine Owe.same ?_; first | refine Owe.o ?_ | refine Owe.mk ?_ ?_) | (refine Fork.same ?_; (first | refine fkY ?_ | refine fkF ?_ | ((first | refine fkD ?_ ?_ | refine fkN ?_ ?_ | refine fkM ?_ ?_) <;> intro h))) | ((first | refine OpsL.same ?_ | refine OpsDL.same ?_); first | refine oK C152 rfl rfl rfl ?_) | refine MvQ.stay ?_)
          subst hq
          (refine rqK rfl ?_; (repeat' first | exact rfl | (refine qS ?_; constructor)))
        · (repeat' first | (refine Owe.same ?_; first | refine Owe.o ?_ | refine Owe.mk ?_ ?_) | (refine Fork.same ?_; (first | refine fkD ?_ ?_ | refine fkN ?_ ?_ | refine fkM ?_ ?_) <;> intro h) | refine MvQ.stay ?_)
          rotate_left
          · rw [hshl] at h; omega
          · refine Sat.nilS 10 3 1 (fun i => r1 (([] : List Int).getD i 0)) rfl ?_
            refine Sat.lp (fun i : Nat => ⟨[(33, vi .i64 i), (32, vi .i64 s.tk.length), (10, .c (.ms 1 (fltL (fun i => b.testBit i) i).length)), (9, vi .i64 b), (8, nilO (some m)), (2, .c (.rp (siD s))), (6, .c (.bp 0 0))], [(1, rowv 3 1 r1 0 (fltL (fun i => b.testBit i) i)), (0, .box (diC s t))], 2⟩)
              (fun i => i ≤ s.tk.length) (fun i => s.tk.length - i) 0 [0, 1] (Nat.zero_le _) ?_ ?_
            · (refine qis ?_ ?_ <;> (repeat' first | exact rfl | (refine qS ?_; constructor)))
            · intro i hi
              have hfl := fltL_len (fun i => b.testBit i) i
              have hfs := fltL_succ (fun i => b.testBit i) i
              refine Fork.dec (fun hli => ?_) (fun hli => ?_)
              · have hli : i < s.tk.length := by omega
                have htb := bit_i64 (b := b) (i := i) (by omega) (by omega)
                (repeat' first | (refine Owe.same ?_; first | refine Owe.o ?_ | refine Owe.mk ?_ ?_) | (refine Fork.same ?_; (first | refine fkD ?_ ?_ | refine fkN ?_ ?_ | refine fkM ?_ ?_) <;> intro h) | refine MvQ.stay ?_)
                · have h : decide _ = true := decide_eq_true h
                  rw [htb] at h
                  rw [if_pos h] at hfs
                  refine again (i + 1) [0, 2] hli (by omega) ?_
                  (refine qis ?_ ?_ <;> (repeat' first | exact rfl | (refine qS ?_; constructor)))
                  · rw [hfs]; simp
                  · exact hfs
                · have h : decide _ = false := decide_eq_false h
                  rw [htb] at h
                  rw [if_neg (by rw [h]; decide)] at hfs
                  refine again (i + 1) [0, 1] hli (by omega) ?_
                  (refine qis ?_ ?_ <;> (repeat' first | exact rfl | (refine qS ?_; constructor)))
                  · rw [hfs]
                  · rw [hfs]
              · have : i = s.tk.length := by omega
                subst this
                have hsl : (subL s.tk.length b).length ≤ s.tk.length := hfl
                have c3 := C158b (g := 144) (ds := diD s t) (l := subL s.tk.length b) (f := fun i => decide ((subL s.tk.length b).getD i 0 ∈ t.d)) (fun i hi => C144 ht) (by omega)
                rw [anyN_mem (p := fun n => decide (n ∈ t.d))] at c3
                change PFD Tryz.prog 158 _ (vbl (dnB t (subL s.tk.length b))) at c3
                have c4 := fun hd => C159 hs.t (subL s.tk.length b).length hO (SetOk.sub (b := b) hd) (Nat.le_refl _)
                change dnB t (subL s.tk.length b) = false → PFD Tryz.prog 159 _ (vbl (tgB s t (subL s.tk.length b))) at c4
                have hnx : clK s t s.tk.length (b + 1) = if smO (clK s t s.tk.length b) (subL s.tk.length b) = true ∧ clB s t (subL s.tk.length b) = true then some (subL s.tk.length b) else clK s t s.tk.length b := rfl
                rw [← ho] at hnx
                have hm := clK_len ho.symm
                have c5 := C161 (l := subL s.tk.length b) (m := m) ⟨by omega, by omega⟩
                (repeat' first | (refine Owe.same ?_; first | refine Owe.o ?_ | refine Owe.mk ?_ ?_) | (refine Fork.same ?_; (first | refine fkD ?_ ?_ | refine fkN ?_ ?_ | refine fkM ?_ ?_) <;> intro h) | refine MvQ.stay ?_)
                refine OpsL.frz 10 _ rfl rfl (Nat.le_refl _) ?_
                (repeat' first | (refine Owe.same ?_; first | refine Owe.o ?_ | refine Owe.mk ?_ ?_) | (refine Fork.same ?_; (first | refine fkY ?_ | refine fkF ?_ | ((first | refine fkD ?_ ?_ | refine fkN ?_ ?_ | refine fkM ?_ ?_) <;> intro h))) | ((first | refine OpsL.same ?_ | refine OpsDL.same ?_); first | refine pK C160 rfl rfl ?_ | refine pK c5 rfl rfl ?_ | refine pK C148 rfl rfl ?_) | refine MvQ.stay ?_)
                · have hs1 : smO (some m) (subL s.tk.length b) = true := decide_eq_true h
                  rw [hs1] at hnx
                  rcases hd : dnB t (subL s.tk.length b) with _ | _
                  · rw [hd] at c3
                    have c4 := c4 hd
                    rw [clB, hd] at hnx
                    rcases hg : tgB s t (subL s.tk.length b) with _ | _
                    · rw [hg] at c4 hnx
                      rw [if_pos ⟨rfl, rfl⟩] at hnx
                      (repeat' first | (refine Owe.same ?_; first | refine Owe.o ?_ | refine Owe.mk ?_ ?_) | (refine Fork.same ?_; (first | refine fkY ?_ | refine fkF ?_ | ((first | refine fkD ?_ ?_ | refine fkN ?_ ?_ | refine fkM ?_ ?_) <;> intro h))) | ((first | refine OpsL.same ?_ | refine OpsDL.same ?_); first | refine oK c3 rfl rfl rfl ?_ | refine oK c4 rfl rfl rfl ?_) | refine MvQ.stay ?_)
                      refine again (b + 1, some (subL s.tk.length b)) [0] ⟨hbl, hnx.symm⟩ (by show N - (b + 1) < N - b; omega) ?_
                      (refine qis ?_ ?_ <;> (repeat' first | exact rfl | (refine qS ?_; constructor)))
                    · rw [hg] at c4 hnx
                      rw [if_neg (by simp)] at hnx
                      (repeat' first | (refine Owe.same ?_; first | refine Owe.o ?_ | refine Owe.mk ?_ ?_) | (refine Fork.same ?_; (first | refine fkY ?_ | refine fkF ?_ | ((first | refine fkD ?_ ?_ | refine fkN ?_ ?_ | refine fkM ?_ ?_) <;> intro h))) | ((first | refine OpsL.same ?_ | refine OpsDL.same ?_); first | refine oK c3 rfl rfl rfl ?_ | refine oK c4 rfl rfl rfl ?_) | refine MvQ.stay ?_)
                      refine again (b + 1, some m) [0] ⟨hbl, hnx.symm⟩ (by show N - (b + 1) < N - b; omega) ?_
                      (refine qis ?_ ?_ <;> (repeat' first | exact rfl | (refine qS ?_; constructor)))
                  · rw [hd] at c3
                    rw [clB, hd, if_neg (by simp)] at hnx
                    (repeat' first | (refine Owe.same ?_; first | refine Owe.o ?_ | refine Owe.mk ?_ ?_) | (refine Fork.same ?_; (first | refine fkY ?_ | refine fkF ?_ | ((first | refine fkD ?_ ?_ | refine fkN ?_ ?_ | refine fkM ?_ ?_) <;> intro h))) | ((first | refine OpsL.same ?_ | refine OpsDL.same ?_); first | refine oK c3 rfl rfl rfl ?_) | refine MvQ.stay ?_)
                    refine again (b + 1, some m) [0] ⟨hbl, hnx.symm⟩ (by show N - (b + 1) < N - b; omega) ?_
                    (refine qis ?_ ?_ <;> (repeat' first | exact rfl | (refine qS ?_; constructor)))
                · have hs1 : smO (some m) (subL s.tk.length b) = false := decide_eq_false h
                  rw [hs1, if_neg (by simp)] at hnx
                  refine again (b + 1, some m) [0] ⟨hbl, hnx.symm⟩ (by show N - (b + 1) < N - b; omega) ?_
                  (refine qis ?_ ?_ <;> (repeat' first | exact rfl | (refine qS ?_; constructor)))
  · rw [if_neg h0] at hq
    generalize onE s t = e at *
    subst hq
    refine pi2 fn71 ?_
    (repeat' first | (refine Owe.same ?_; first | refine Owe.o ?_ | refine Owe.mk ?_ ?_) | (refine Fork.same ?_; (first | refine fkY ?_ | refine fkF ?_ | ((first | refine fkD ?_ ?_ | refine fkN ?_ ?_ | refine fkM ?_ ?_) <;> intro h))) | ((first | refine OpsL.same ?_ | refine OpsDL.same ?_); first | refine oK c1 rfl rfl rfl ?_) | refine MvQ.stay ?_)
    (refine rqK rfl ?_; (repeat' first | exact rfl | (refine qS ?_; constructor)))
abbrev exSi : Si := ⟨[⟨⟨#[118, 97, 108, 118, 101]⟩, 1, 20, 30, 4, 50, 0, 300, []⟩, ⟨⟨#[112, 114, 111, 98, 101]⟩, 2, 10, 10, 1, 30, 80, 90, []⟩, ⟨⟨#[99, 108, 111, 115, 101]⟩, 1, 10, 20, 2, 40, 0, 400, [0]⟩], [[0, 10, 20], [10, 0, 10], [20, 10, 0]], [30, 40, 50], [(100, 199, 5)], 1, 2, 20, 400⟩
abbrev exSt : St8 := ⟨0, 0, 300, 6, []⟩
abbrev exSt1 : St8 := ⟨1, 30, 250, 2, [0]⟩
theorem PFD.res {P : Program} {f : FuncId} {args : List V} {v v' : V} (h : PFD P f args v) (hr : RI v v') : PFD P f args v' :=
  ⟨h.h.1, h.h.2.1, fun Γ w us h1 h2 h3 => (h.h.2.2 Γ w us h1 h2 h3).mono fun e w' ⟨u, Γ', q1, q2, q3⟩ => ⟨u, Γ', q1, hr _ _ _ q2, q3⟩⟩
theorem DI.nil (s : Nat) (f : Nat → List D) : DI (.v (.slice none 0 0)) (.sl s 0 f) := fun I w u h => by
  cases h; exact .slE _ _ _ _
abbrev litD (s : Nat) (l : List (List D)) : D := .sl s l.length fun i => l.getD i []
theorem DI.lit {s : Nat} {l : List (List D)} {g : Nat → List D} (h : ∀ i, i < l.length → DIs (l.getD i []) (g i)) : DI (litD s l) (.sl s l.length g) := DI.sl h
abbrev exRaw : List D := [litD 9 [[.v (.string ⟨#[118, 97, 108, 118, 101]⟩), dI 1, dI 20, dI 30, dI 4, dI 50, dI 0, dI 300, .v (.slice none 0 0)], [.v (.string ⟨#[112, 114, 111, 98, 101]⟩), dI 2, dI 10, dI 10, dI 1, dI 30, dI 80, dI 90, .v (.slice none 0 0)], [.v (.string ⟨#[99, 108, 111, 115, 101]⟩), dI 1, dI 10, dI 20, dI 2, dI 40, dI 0, dI 400, litD 1 [[dI 0]]]],
  litD 1 [[litD 1 [[dI 0], [dI 10], [dI 20]]], [litD 1 [[dI 10], [dI 0], [dI 10]]], [litD 1 [[dI 20], [dI 10], [dI 0]]]], litD 1 [[dI 30], [dI 40], [dI 50]], litD 3 [[dI 100, dI 199, dI 5]], dI 1, dI 2, dI 20, dI 400]
theorem DIs.of {ds es : List D} (h : ds = es) : DIs ds es := h ▸ DIs.refl ds
theorem ex3I {a b c : Int} : DI (litD 1 [[dI a], [dI b], [dI c]]) (intsD [a, b, c]) := DI.sl fun i hi => by
  match i, hi with
  | 0, _ => exact DIs.refl _
  | 1, _ => exact DIs.refl _
  | 2, _ => exact DIs.refl _
theorem C107 : PFD Tryz.prog 107 [] (siv exSi) := by
  refine PFD.res (v := .agg [.d (litD 9 [[.v (.string ⟨#[118, 97, 108, 118, 101]⟩), dI 1, dI 20, dI 30, dI 4, dI 50, dI 0, dI 300, .v (.slice none 0 0)], [.v (.string ⟨#[112, 114, 111, 98, 101]⟩), dI 2, dI 10, dI 10, dI 1, dI 30, dI 80, dI 90, .v (.slice none 0 0)], [.v (.string ⟨#[99, 108, 111, 115, 101]⟩), dI 1, dI 10, dI 20, dI 2, dI 40, dI 0, dI 400, litD 1 [[dI 0]]]]), .d (litD 1 [[litD 1 [[dI 0], [dI 10], [dI 20]]], [litD 1 [[dI 10], [dI 0], [dI 10]]], [litD 1 [[dI 20], [dI 10], [dI 0]]]]), .d (litD 1 [[dI 30], [dI 40], [dI 50]]), .d (litD 3 [[dI 100, dI 199, dI 5]]), .d (dI 1), .d (dI 2), .d (dI 20), .d (dI 400)]) ?_ (RI.aggI (ds := exRaw) (es := siD exSi) ?_)
  · refine pi1 fn107 ?_
    (repeat' first | (refine Owe.same ?_; first | refine Owe.o ?_ | refine Owe.mk ?_ ?_) | (refine Fork.same ?_; (first | refine fkD ?_ ?_ | refine fkN ?_ ?_ | refine fkM ?_ ?_) <;> intro h) | refine MvQ.stay ?_)
    (refine rqK rfl ?_; (repeat' first | exact rfl | (refine qS ?_; constructor)))
  · refine .cons (DI.sl fun i hi => ?_) (.cons (DI.sl fun i hi => ?_) (.cons ex3I (.cons (DI.sl fun i hi => ?_) (DIs.refl _))))
    · match i, hi with
      | 0, _ => exact .cons (DI.refl _) (.cons (DI.refl _) (.cons (DI.refl _) (.cons (DI.refl _) (.cons (DI.refl _) (.cons (DI.refl _) (.cons (DI.refl _) (.cons (DI.refl _) (.cons (DI.nil _ _) .nil))))))))
      | 1, _ => exact .cons (DI.refl _) (.cons (DI.refl _) (.cons (DI.refl _) (.cons (DI.refl _) (.cons (DI.refl _) (.cons (DI.refl _) (.cons (DI.refl _) (.cons (DI.refl _) (.cons (DI.nil _ _) .nil))))))))
      | 2, _ => exact .cons (DI.refl _) (.cons (DI.refl _) (.cons (DI.refl _) (.cons (DI.refl _) (.cons (DI.refl _) (.cons (DI.refl _) (.cons (DI.refl _) (.cons (DI.refl _) (.cons (DI.sl fun i hi => by
          match i, hi with
          | 0, _ => exact DIs.refl _) .nil))))))))
    · match i, hi with
      | 0, _ => exact .cons ex3I .nil
      | 1, _ => exact .cons ex3I .nil
      | 2, _ => exact .cons ex3I .nil
    · match i, hi with
      | 0, _ => exact DIs.refl _
def grS (s : Si) : Nat → St8 → List Int → List Int × Int → List Int × Int
  | 0, _, p, b => updP s p b
  | f + 1, t, p, b => (List.range s.tk.length).foldl (fun b (k : Nat) => if spE s t (k : Int) = 0 then grS s f (spS s t (k : Int)) (p ++ [(k : Int)]) b else b) (updP s p b)
theorem grS_eq {s : Si} : ∀ (f : Nat) (t : St8) (p : List Int) (b : List Int × Int), grwF s f t p b = grS s f t p b
  | 0, t, p, b => by rw [grwF, grS]
  | f + 1, t, p, b => by
    have key : ∀ k, grwK s f t p (updP s p b) k = (List.range k).foldl (fun b (k : Nat) => if spE s t (k : Int) = 0 then grS s f (spS s t (k : Int)) (p ++ [(k : Int)]) b else b) (updP s p b) := fun k => by
      induction k with
      | zero => rw [grwK]; rfl
      | succ k ih =>
        rw [grwK, List.range_succ, List.foldl_append, ← ih, grS_eq f]
        rfl
    rw [grwF, grS, key]
theorem C108 : PFD Tryz.prog 108 [] (stv exSt) := by
  refine pi1 fn108 ?_
  (repeat' first | (refine Owe.same ?_; first | refine Owe.o ?_ | refine Owe.mk ?_ ?_) | (refine Fork.same ?_; (first | refine fkD ?_ ?_ | refine fkN ?_ ?_ | refine fkM ?_ ?_) <;> intro h) | refine MvQ.stay ?_)
  (refine rqK rfl ?_; (repeat' first | exact rfl | (refine qS ?_; constructor)))
theorem exSm : SiSm exSi := ⟨by decide, by decide, by decide, by decide, by decide, by decide⟩
theorem ex1 : sbE exSi exSt 0 = 0 := by decide +kernel
theorem ex2 : sameB (spS exSi exSt 0) exSt1 = true := by decide +kernel
theorem ex3 : lrE exSi exSt1 = (170, 0) := by decide +kernel
theorem ex4 : orE exSi exSt = 0 := by decide +kernel
theorem ex5 : bestP exSi exSt = ([0, 2], 90) := by
  rw [bestP, grS_eq]; decide +kernel
theorem ex6 : clE exSi exSt = ([0, 1, 2], 0) := by decide +kernel
theorem C24 : PFD Tryz.prog 24 [] (vbl true) := by
  have c1 := C106 (s := exSi) (t := exSt) (n := 0) ⟨exSm, by decide⟩
  rw [ex1, if_pos rfl] at c1
  have c2 := C76 (s := exSi) (t := exSt1) ⟨exSm, by decide⟩
  rw [ex3] at c2
  have c3 := C64 (s := exSi) (t := exSt) ⟨exSm, by decide⟩
  rw [ex4, if_pos rfl, if_pos rfl, ex5] at c3
  have c4 := C71 (s := exSi) (t := exSt) ⟨exSm, by decide⟩
  rw [ex6] at c4
  have hl : (spS exSi exSt 0).d.length < 4611686018427387904 := by decide +kernel
  have c5 := C43 (a := spS exSi exSt 0) (b := exSt1) hl
  rw [ex2] at c5
  have c6 := C44 (l := [0, 2]) (m := [0, 2]) (by decide)
  have c7 := C44 (l := [0, 1, 2]) (m := [0, 1, 2]) (by decide)
  rw [decide_eq_true rfl] at c6 c7
  generalize spS exSi exSt 0 = X at *
  refine pi1 fn24 ?_
  (repeat' first | (refine Owe.same ?_; first | refine Owe.o ?_ | refine Owe.mk ?_ ?_) | (refine Fork.same ?_; (first | refine fkY ?_ | refine fkF ?_ | ((first | refine fkD ?_ ?_ | refine fkN ?_ ?_ | refine fkM ?_ ?_) <;> intro h))) | ((first | refine OpsL.same ?_ | refine OpsDL.same ?_); first | refine pK C107 rfl rfl ?_ | refine pK C108 rfl rfl ?_ | refine pK c1 rfl rfl ?_ | refine pK c2 rfl rfl ?_ | refine pK c3 rfl rfl ?_ | refine pK c4 rfl rfl ?_ | refine pK c5 rfl rfl ?_) | refine MvQ.stay ?_)
  ((first | refine OpsL.same ?_ | refine OpsDL.same ?_); first | refine pK c6 rfl rfl ?_)
  (repeat' first | (refine Owe.same ?_; first | refine Owe.o ?_ | refine Owe.mk ?_ ?_) | (refine Fork.same ?_; (first | refine fkY ?_ | refine fkF ?_ | ((first | refine fkD ?_ ?_ | refine fkN ?_ ?_ | refine fkM ?_ ?_) <;> intro h))) | ((first | refine OpsL.same ?_ | refine OpsDL.same ?_); first | refine oK C107 rfl rfl rfl ?_) | refine MvQ.stay ?_)
  ((first | refine OpsL.same ?_ | refine OpsDL.same ?_); first | refine pK c7 rfl rfl ?_)
  (repeat' first | (refine Owe.same ?_; first | refine Owe.o ?_ | refine Owe.mk ?_ ?_) | (refine Fork.same ?_; (first | refine fkY ?_ | refine fkF ?_ | ((first | refine fkD ?_ ?_ | refine fkN ?_ ?_ | refine fkM ?_ ?_) <;> intro h))) | ((first | refine OpsL.same ?_ | refine OpsDL.same ?_); first | refine oK C107 rfl rfl rfl ?_) | refine MvQ.stay ?_)
  (refine rqK rfl ?_; (repeat' first | exact rfl | (refine qS ?_; constructor)))
end Go.Pw
set_option linter.unusedVariables false
set_option maxHeartbeats 2000000
set_option maxRecDepth 100000
namespace Go.Pw
open Go Go.Proofs
end Go.Pw

set_option linter.unusedSimpArgs false
set_option linter.unusedVariables false
set_option maxHeartbeats 4000000
namespace Go.Pw
set_option maxRecDepth 2000
open Go Go.Proofs A1 A2 A3 A4
end Go.Pw

set_option linter.unusedSimpArgs false
set_option linter.unusedVariables false
set_option maxHeartbeats 4000000
namespace Go.Pw
set_option maxRecDepth 2000
open Go Go.Proofs A1 A2 A3 A4
end Go.Pw

set_option linter.unusedSimpArgs false
set_option linter.unusedVariables false
set_option maxHeartbeats 4000000
namespace Go.Pw
set_option maxRecDepth 2000
open Go Go.Proofs A1 A2 A3 A4
end Go.Pw

set_option linter.unusedSimpArgs false
set_option linter.unusedVariables false
set_option maxHeartbeats 4000000
namespace Go.Pw
set_option maxRecDepth 2000
open Go Go.Proofs A1 A2 A3 A4
theorem OnOk.on {s : Si} {t : St8} (h : OnOk s t) (h0 : (siE s).2 = 0) : onE s t = 0 := by
  rw [onE_eq h0, rsE, if_pos (by have := h.pl; omega), if_pos ⟨⟨h.tm, h.en⟩, h.oil⟩]
  exact h.d
theorem C32d {l : List Int} {k : Nat} (h : l.length ≤ 1000000) : PFD Tryz.prog 32 [.c (.d (.sl 1 (l.length - k) fun i => r1 (l.getD (k + i) 0)))] (.c (ints (l.drop k))) :=
  PFD.ri (C32 (l := l.drop k) (by rw [List.length_drop]; omega)) (.cons (RI.cI (DI.drop rfl fun _ _ => rfl)) .nil)
end Go.Pw
set_option linter.unusedSimpArgs false
set_option linter.unusedVariables false
set_option maxHeartbeats 4000000
namespace Go.Pw
set_option maxRecDepth 2000
open Go Go.Proofs A1 A2 A3 A4
end Go.Pw

set_option linter.unusedSimpArgs false
set_option linter.unusedVariables false
set_option maxHeartbeats 4000000
namespace Go.Pw
set_option maxRecDepth 2000
open Go Go.Proofs A1 A2 A3 A4
end Go.Pw

set_option linter.unusedSimpArgs false
set_option linter.unusedVariables false
set_option maxHeartbeats 4000000
namespace Go.Pw
set_option maxRecDepth 2000
open Go Go.Proofs A1 A2 A3 A4
end Go.Pw

set_option linter.unusedSimpArgs false
set_option linter.unusedVariables false
set_option maxHeartbeats 4000000
namespace Go.Pw
set_option maxRecDepth 2000
open Go Go.Proofs A1 A2 A3 A4
theorem C54 {a : Int} : Md a → PFD Tryz.prog 54 [vi .i64 a] (vi .i64 (max a (-a))) := fun ha => by
  refine pi1 fn54 ?_
  (repeat' first | (refine Owe.same ?_; first | refine Owe.o ?_ | refine Owe.mk ?_ ?_) | (refine Fork.same ?_; (first | refine fkD ?_ ?_ | refine fkN ?_ ?_ | refine fkM ?_ ?_) <;> intro h) | refine MvQ.stay ?_)
  (refine rqK rfl ?_; (repeat' first | exact rfl | (refine qS ?_; constructor)))
end Go.Pw
set_option linter.unusedSimpArgs false
set_option linter.unusedVariables false
set_option maxHeartbeats 1000000
namespace Go.Pw
open Go.RowKit Go.Lib
set_option maxRecDepth 2000
open Go Go.Proofs A1 A2 A3 A4
theorem jn_len {c : UInt8} {M : Nat} : ∀ {l : List By}, (∀ x ∈ l, x.length ≤ M) → (jnG c l).length ≤ l.length * (M + 1)
  | [], _ => by simp [jnG]
  | [x], h => by have := h x (by simp); simp [jnG]; omega
  | x :: y :: r, h => by
    have h1 := jn_len (c := c) (M := M) (l := y :: r) (fun z hz => h z (List.mem_cons_of_mem _ hz))
    have h2 := h x (by simp)
    rw [jn_cons (by simp), List.length_append, List.length_cons, List.length_cons, Nat.add_mul, Nat.one_mul]
    omega
abbrev wdL (l : List Int) : List By := l.map itoa
def wdS (l : List Int) : By := jnG 32 (wdL l)
theorem wd_len {l : List Int} (h : ∀ n ∈ l, i64P n) : (wdS l).length ≤ l.length * 22 := by
  have := jn_len (c := 32) (M := 21) (l := wdL l) (fun x hx => by
    obtain ⟨n, hn, rfl⟩ := List.mem_map.1 hx
    exact itoa_length_le n (h n hn).1 (h n hn).2)
  rw [List.length_map] at this; exact this
theorem tk1 {α : Type} {l : List α} {k : Nat} (d : α) (h : k < l.length) : l.take (k + 1) = l.take k ++ [l.getD k d] := by
  rw [List.take_add_one, List.getElem?_eq_getElem h, List.getD_eq_getElem?_getD, List.getElem?_eq_getElem h]; rfl
theorem C109 {l : List Int} : (l.length ≤ 1000 ∧ ∀ n ∈ l, i64P n) → PFD Tryz.prog 109 [.c (ints l)] (sv (wdS l)) := fun ⟨hl, h⟩ => by
  refine pi1 fn109 ?_
  (repeat' first | (refine Owe.same ?_; first | refine Owe.o ?_ | refine Owe.mk ?_ ?_) | (refine Fork.same ?_; (first | refine fkD ?_ ?_ | refine fkN ?_ ?_ | refine fkM ?_ ?_) <;> intro h) | refine MvQ.stay ?_)
  refine Sat.nilS 3 9 1 (fun i => rS (([] : List By).getD i [])) rfl ?_
  refine Sat.lp (fun k : Nat => ⟨[(8, vi .i64 k), (7, vi .i64 l.length), (6, .c (ints l)), (3, .c (.ms 0 (wdL (l.take k)).length))], [(0, rowv 9 1 rS [] (wdL (l.take k)))], 1⟩)
    (fun k => k ≤ l.length) (fun k => l.length - k) 0 [0] (Nat.zero_le _) ?_ ?_
  · (refine qis ?_ ?_ <;> (repeat' first | exact rfl | (refine qS ?_; constructor)))
  · intro k hk
    refine Fork.dec (fun hlt => ?_) (fun hlt => ?_)
    · have hlt : k < l.length := by omega
      have hi : i64P (l.getD (k : Int).toNat 0) := h _ (by
        show l.getD k 0 ∈ l
        rw [List.getD_eq_getElem?_getD, List.getElem?_eq_getElem hlt]; exact List.getElem_mem ..)
      have h84 := C181 hi
      have ht : wdL (l.take (k + 1)) = wdL (l.take k) ++ [itoa (l.getD k 0)] := by
        rw [tk1 0 hlt, wdL, List.map_append]; rfl
      have hk1 : (wdL (l.take k)).length ≤ 1000 := by rw [List.length_map, List.length_take]; omega
      (repeat' first | (refine Owe.same ?_; first | refine Owe.o ?_ | refine Owe.mk ?_ ?_) | (refine Fork.same ?_; (first | refine fkY ?_ | refine fkF ?_ | ((first | refine fkD ?_ ?_ | refine fkN ?_ ?_ | refine fkM ?_ ?_) <;> intro h))) | ((first | refine OpsL.same ?_ | refine OpsDL.same ?_); first | refine oK h84 rfl rfl rfl ?_) | refine MvQ.stay ?_)
      refine again (k + 1) [1] hlt (by omega) ?_
      (refine qis ?_ ?_ <;> (repeat' first | exact rfl | (refine qS ?_; constructor)))
      · rw [ht, List.length_append]; rfl
      · exact ⟨_, rfl, ht⟩
    · have hk1 : k = l.length := by omega
      have hw : wdL (l.take k) = wdL l := by rw [List.take_of_length_le (by omega)]
      have hj := wd_len h
      have hll : (wdL l).length = l.length := List.length_map ..
      have h42 := C93 (l := wdL l) (c := 32) ⟨by omega, by show (wdS l).length ≤ _; omega⟩
      rw [hw]
      (repeat' first | (refine Owe.same ?_; first | refine Owe.o ?_ | refine Owe.mk ?_ ?_) | (refine Fork.same ?_; (first | refine fkD ?_ ?_ | refine fkN ?_ ?_ | refine fkM ?_ ?_) <;> intro h))
      refine MvQ.frz 3 _ rfl rfl (Nat.le_refl _) ?_
      (repeat' first | (refine Owe.same ?_; first | refine Owe.o ?_ | refine Owe.mk ?_ ?_) | (refine Fork.same ?_; (first | refine fkY ?_ | refine fkF ?_ | ((first | refine fkD ?_ ?_ | refine fkN ?_ ?_ | refine fkM ?_ ?_) <;> intro h))) | ((first | refine OpsL.same ?_ | refine OpsDL.same ?_); first | refine oK h42 rfl rfl rfl ?_) | refine MvQ.stay ?_)
      (refine rqK rfl ?_; (repeat' first | exact rfl | (refine qS ?_; constructor)))
theorem ix_hit {c : UInt8} {r : By} : ∀ {p : By}, c ∉ p → indexByte (p ++ c :: r) c = p.length
  | [], _ => by simp [indexByte]
  | x :: p, h => by
    rw [List.mem_cons, not_or] at h
    have e : ¬ x = c := fun e => h.1 e.symm
    have ih := ix_hit (r := r) h.2
    have : ¬ ((p.length : Int) = -1) := by omega
    simp [indexByte, e, ih, this]
theorem ix_miss {c : UInt8} : ∀ {l : By}, c ∉ l → indexByte l c = -1
  | [], _ => rfl
  | x :: l, h => by
    rw [List.mem_cons, not_or] at h
    have e : ¬ x = c := fun e => h.1 e.symm
    have ih := ix_miss h.2
    simp [indexByte, e, ih]
theorem cutB_bs {l : By} {i j : Nat} : cutB (bs l) i j = bs ((l.take j).drop i) := by simp [cutB, bs]
theorem C198h {c : UInt8} {p r : By} : c ∉ p → p.length + r.length ≤ 1000000 → PFD Tryz.prog 198 [sv (p ++ c :: r), .c (.d (.v (.string ⟨#[c]⟩)))] (.tup [sv p, sv r, vbl true]) := fun hc hl => by
  have h130 := C257 (l := p ++ c :: r) (c := c)
  rw [ix_hit hc] at h130
  have hsz : (bs (p ++ c :: r)).size = p.length + r.length + 1 := by rw [bs_size]; simp; omega
  have hs1 : (ByteArray.mk #[c]).size = 1 := rfl
  refine pi3 fn198 ?_
  (repeat' first | (refine Owe.same ?_; first | refine Owe.o ?_ | refine Owe.mk ?_ ?_) | (refine Fork.same ?_; (first | refine fkD ?_ ?_ | refine fkN ?_ ?_ | refine fkM ?_ ?_) <;> intro h) | ((first | refine OpsL.same ?_ | refine OpsDL.same ?_); first | refine pK h130 rfl rfl ?_) | refine MvQ.stay ?_)
  · (refine rqK rfl ?_; (repeat' first | exact rfl | (refine qS ?_; constructor)))
    · refine VEq.str ?_
      rw [cutB_bs]
      simp
    · refine VEq.str ?_
      have e : ((p.length : Int) + ((ByteArray.mk #[c]).size : Nat)).toNat = p.length + 1 := by rw [hs1]; omega
      rw [e]
      simp [bs]
  · omega
theorem C198m {c : UInt8} {s : By} : c ∉ s → PFD Tryz.prog 198 [sv s, .c (.d (.v (.string ⟨#[c]⟩)))] (.tup [sv s, sv [], vbl false]) := fun hc => by
  have h130 := C257 (l := s) (c := c)
  rw [ix_miss hc] at h130
  refine pi3 fn198 ?_
  (repeat' first | (refine Owe.same ?_; first | refine Owe.o ?_ | refine Owe.mk ?_ ?_) | (refine Fork.same ?_; (first | refine fkD ?_ ?_ | refine fkN ?_ ?_ | refine fkM ?_ ?_) <;> intro h) | ((first | refine OpsL.same ?_ | refine OpsDL.same ?_); first | refine pK h130 rfl rfl ?_) | refine MvQ.stay ?_)
  · omega
  · (refine rqK rfl ?_; (repeat' first | exact rfl | (refine qS ?_; constructor)))
theorem C111h {c : UInt8} {p r : By} : c ∉ p → p.length + r.length ≤ 1000000 → PFD Tryz.prog 111 [sv (p ++ c :: r), .c (.d (.v (.string ⟨#[c]⟩)))] (.tup [sv p, sv r, vbl true]) := fun hc hl => by
  have h := C198h hc hl
  refine pi3 fn111 ?_
  (repeat' first | (refine Owe.same ?_; first | refine Owe.o ?_ | refine Owe.mk ?_ ?_) | (refine Fork.same ?_; (first | refine fkD ?_ ?_ | refine fkN ?_ ?_ | refine fkM ?_ ?_) <;> intro h) | ((first | refine OpsL.same ?_ | refine OpsDL.same ?_); first | refine pK h rfl rfl ?_) | refine MvQ.stay ?_)
  (refine rqK rfl ?_; (repeat' first | exact rfl | (refine qS ?_; constructor)))
theorem C111m {c : UInt8} {s : By} : c ∉ s → PFD Tryz.prog 111 [sv s, .c (.d (.v (.string ⟨#[c]⟩)))] (.tup [sv s, sv [], vbl false]) := fun hc => by
  have h := C198m hc
  refine pi3 fn111 ?_
  (repeat' first | (refine Owe.same ?_; first | refine Owe.o ?_ | refine Owe.mk ?_ ?_) | (refine Fork.same ?_; (first | refine fkD ?_ ?_ | refine fkN ?_ ?_ | refine fkM ?_ ?_) <;> intro h) | ((first | refine OpsL.same ?_ | refine OpsDL.same ?_); first | refine pK h rfl rfl ?_) | refine MvQ.stay ?_)
  (refine rqK rfl ?_; (repeat' first | exact rfl | (refine qS ?_; constructor)))
end Go.Pw
set_option linter.unusedSimpArgs false
set_option linter.unusedVariables false
set_option maxHeartbeats 1000000
set_option maxRecDepth 20000
namespace Go.Pw
open Go.RowKit Go.Lib
set_option maxRecDepth 2000
open Go Go.Proofs A1 A2 A3 A4
def dd0 (m : Int) : By := if m = 0 then [] else decDigits m.natAbs
theorem dd0_step {m : Int} (h : m ≠ 0) : dd0 m = dd0 (m.tdiv 10) ++ [UInt8.ofNat (48 + (m.tmod 10).natAbs)] := by
  have e1 : (m.tdiv 10).natAbs = m.natAbs / 10 := Int.natAbs_tdiv m 10
  have e2 : (m.tmod 10).natAbs = m.natAbs % 10 := Int.natAbs_tmod m 10
  rw [dd0, if_neg h, e2]
  by_cases h1 : m.natAbs < 10
  · have : m.tdiv 10 = 0 := by omega
    rw [this, dd0, if_pos rfl, decDigits_one h1, Nat.mod_eq_of_lt h1]; rfl
  · have : m.tdiv 10 ≠ 0 := by omega
    rw [dd0, if_neg this, e1, dec_big h1]
theorem u8w {x : Int} (h0 : 0 ≤ x) (h1 : x < 256) : IntKind.u8.wrap x = x := by
  have e : x % 256 = x := Int.emod_eq_of_lt h0 h1
  show (if (false && decide (x % 256 ≥ 2 ^ 7)) = true then x % 256 - 256 else x % 256) = x
  rw [Bool.false_and, if_neg (by decide), e]
theorem C115 {n : Int} : i64P n → PFD Tryz.prog 115 [vi .i64 n] (sv (itoa n)) := fun hn => by
  have hD : (decDigits n.natAbs).length ≤ 21 := by
    have := itoa_length_le n hn.1 hn.2
    by_cases h : n < 0
    · rw [itoa_neg h, List.length_cons] at this; omega
    · rw [itoa_nn (by omega), show n.toNat = n.natAbs by omega] at this; omega
  refine pi1 fn115 ?_
  (repeat' first | (refine Owe.same ?_; first | refine Owe.o ?_ | refine Owe.mk ?_ ?_) | (refine Fork.same ?_; (first | refine fkD ?_ ?_ | refine fkN ?_ ?_ | refine fkM ?_ ?_) <;> intro h) | refine MvQ.stay ?_)
  · (refine rqK rfl ?_; (repeat' first | exact rfl | (refine qS ?_; constructor)))
    refine VEq.str ?_
    rw [h, itoa_nn (by decide)]
    show _ = bs (decDigits 0)
    rw [dec0]
  · skip
    have hsg := h
    refine Sat.lp (fun st : Int × By => ⟨[(0, vi .i64 st.1), (3, sv st.2), (4, sv [45])], [], 0⟩)
      (fun st : Int × By => i64P st.1 ∧ dd0 st.1 ++ st.2 = decDigits n.natAbs) (fun st : Int × By => st.1.natAbs) (n, []) [] ⟨hn, by rw [dd0, if_neg (by omega), List.append_nil]⟩ ?_ ?_
    · (refine qis ?_ ?_ <;> (repeat' first | exact rfl | (refine qS ?_; constructor)))
    · rintro ⟨m, t⟩ ⟨hm, ht⟩
      simp only at hm ht
      have e2 : (m.tmod 10).natAbs = m.natAbs % 10 := Int.natAbs_tmod m 10
      have e1 : (m.tdiv 10).natAbs = m.natAbs / 10 := Int.natAbs_tdiv m 10
      have hb1 : -9 ≤ m.tmod 10 ∧ m.tmod 10 ≤ 9 := by omega
      have htl : t.length ≤ 21 := by
        have := congrArg List.length ht
        rw [List.length_append] at this; omega
      have hu : IntKind.u8.wrap (48 + max (m.tmod 10) (-m.tmod 10)) = 48 + max (m.tmod 10) (-m.tmod 10) := u8w (by omega) (by omega)
      have hs2 : (bs t).size = t.length := bs_size t
      have h133 := C54 (a := m.tmod 10) (by simp only [Md]; omega)
      (repeat' first | (refine Owe.same ?_; first | refine Owe.o ?_ | refine Owe.mk ?_ ?_) | (refine Fork.same ?_; (first | refine fkD ?_ ?_ | refine fkN ?_ ?_ | refine fkM ?_ ?_) <;> intro h) | ((first | refine OpsL.same ?_ | refine OpsDL.same ?_); first | refine pK h133 rfl rfl ?_) | refine MvQ.stay ?_)
      · rw [hu]
        refine ⟨⟨⟨⟨?_, trivial⟩, trivial⟩, ?_⟩, ?_⟩
        · exact ⟨by omega, by omega⟩
        · omega
        · show ((1 + (bs t).size : Nat) : Int) ≤ _
          omega
      · have h : ¬ m = 0 := h
        refine again (m.tdiv 10, UInt8.ofNat (48 + (m.tmod 10).natAbs) :: t) [] ⟨by constructor <;> omega, by rw [← ht, dd0_step h]; simp⟩ (by show (m.tdiv 10).natAbs < m.natAbs; omega) ?_
        (refine qis ?_ ?_ <;> (repeat' first | exact rfl | (refine qS ?_; constructor)))
        refine VEq.str ?_
        rw [hu, show (48 + max (m.tmod 10) (-m.tmod 10)).toNat = 48 + (m.tmod 10).natAbs by omega]
        simp [bs]
      · show (((bs ([45] : By)).size + (bs t).size : Nat) : Int) ≤ 9223372036854775807
        have h3 : (bs ([45] : By)).size ≤ 1 := by decide
        omega
      · have h : m = 0 := h
        subst h
        (refine rqK rfl ?_; (repeat' first | exact rfl | (refine qS ?_; constructor)))
        refine VEq.str ?_
        rw [dd0, if_pos rfl, List.nil_append] at ht
        subst ht
        rw [itoa_neg hsg]
        simp [bs]
  · have hsg := h
    refine Sat.lp (fun st : Int × By => ⟨[(0, vi .i64 st.1), (3, sv st.2), (4, sv [])], [], 0⟩)
      (fun st : Int × By => i64P st.1 ∧ dd0 st.1 ++ st.2 = decDigits n.natAbs) (fun st : Int × By => st.1.natAbs) (n, []) [] ⟨hn, by rw [dd0, if_neg (by omega), List.append_nil]⟩ ?_ ?_
    · (refine qis ?_ ?_ <;> (repeat' first | exact rfl | (refine qS ?_; constructor)))
    · rintro ⟨m, t⟩ ⟨hm, ht⟩
      simp only at hm ht
      have e2 : (m.tmod 10).natAbs = m.natAbs % 10 := Int.natAbs_tmod m 10
      have e1 : (m.tdiv 10).natAbs = m.natAbs / 10 := Int.natAbs_tdiv m 10
      have hb1 : -9 ≤ m.tmod 10 ∧ m.tmod 10 ≤ 9 := by omega
      have htl : t.length ≤ 21 := by
        have := congrArg List.length ht
        rw [List.length_append] at this; omega
      have hu : IntKind.u8.wrap (48 + max (m.tmod 10) (-m.tmod 10)) = 48 + max (m.tmod 10) (-m.tmod 10) := u8w (by omega) (by omega)
      have hs2 : (bs t).size = t.length := bs_size t
      have h133 := C54 (a := m.tmod 10) (by simp only [Md]; omega)
      (repeat' first | (refine Owe.same ?_; first | refine Owe.o ?_ | refine Owe.mk ?_ ?_) | (refine Fork.same ?_; (first | refine fkD ?_ ?_ | refine fkN ?_ ?_ | refine fkM ?_ ?_) <;> intro h) | ((first | refine OpsL.same ?_ | refine OpsDL.same ?_); first | refine pK h133 rfl rfl ?_) | refine MvQ.stay ?_)
      · rw [hu]
        refine ⟨⟨⟨⟨?_, trivial⟩, trivial⟩, ?_⟩, ?_⟩
        · exact ⟨by omega, by omega⟩
        · omega
        · show ((1 + (bs t).size : Nat) : Int) ≤ _
          omega
      · have h : ¬ m = 0 := h
        refine again (m.tdiv 10, UInt8.ofNat (48 + (m.tmod 10).natAbs) :: t) [] ⟨by constructor <;> omega, by rw [← ht, dd0_step h]; simp⟩ (by show (m.tdiv 10).natAbs < m.natAbs; omega) ?_
        (refine qis ?_ ?_ <;> (repeat' first | exact rfl | (refine qS ?_; constructor)))
        refine VEq.str ?_
        rw [hu, show (48 + max (m.tmod 10) (-m.tmod 10)).toNat = 48 + (m.tmod 10).natAbs by omega]
        simp [bs]
      · show (((bs ([] : By)).size + (bs t).size : Nat) : Int) ≤ 9223372036854775807
        have h3 : (bs ([] : By)).size ≤ 1 := by decide
        omega
      · have h : m = 0 := h
        subst h
        (refine rqK rfl ?_; (repeat' first | exact rfl | (refine qS ?_; constructor)))
        refine VEq.str ?_
        rw [dd0, if_pos rfl, List.nil_append] at ht
        subst ht
        rw [itoa_nn (by omega), show n.toNat = n.natAbs by omega]
        simp [bs]
structure Hd (p : Prop) : Prop where
  h : p
theorem wd_step {l : List Int} {k : Nat} (h : k < l.length) : wdS (l.take (k + 1)) = if k = 0 then itoa (l.getD k 0) else wdS (l.take k) ++ 32 :: itoa (l.getD k 0) := by
  rw [wdS, wdL, tk1 0 h, List.map_append]
  by_cases h0 : k = 0
  · subst h0; rw [if_pos rfl]; rfl
  · rw [if_neg h0]
    refine jn_app (l := (l.take k).map itoa) (fun e => ?_)
    have := congrArg List.length e
    rw [List.length_map, List.length_take, List.length_nil] at this; omega
theorem wd_ne {l : List Int} {k : Nat} (h : k < l.length) (h0 : 0 < k) : wdS (l.take k) ≠ [] := fun e => by
  obtain ⟨j, rfl⟩ : ∃ j, k = j + 1 := ⟨k - 1, by omega⟩
  rw [wd_step (by omega)] at e
  split at e
  · exact itoa_ne _ e
  · simp at e
theorem C116 {l : List Int} : (l.length ≤ 1000 ∧ ∀ n ∈ l, i64P n) → PFD Tryz.prog 116 [sv [], .c (ints l)] (sv (wdS l)) := fun ⟨hl, h⟩ => by
  refine pi1 fn116 ?_
  (repeat' first | (refine Owe.same ?_; first | refine Owe.o ?_ | refine Owe.mk ?_ ?_) | (refine Fork.same ?_; (first | refine fkD ?_ ?_ | refine fkN ?_ ?_ | refine fkM ?_ ?_) <;> intro h) | refine MvQ.stay ?_)
  refine Sat.lp (fun k : Nat => ⟨[(1, .c (ints l)), (5, sv (wdS (l.take k))), (6, vi .i64 k)], [], 0⟩)
    (fun k => k ≤ l.length) (fun k => l.length - k) 0 [] (Nat.zero_le _) ?_ ?_
  · (refine qis ?_ ?_ <;> (repeat' first | exact rfl | (refine qS ?_; constructor)))
  · intro k hk
    refine Fork.dec (fun hlt => ?_) (fun hlt => ?_)
    · have hlt : k < l.length := by omega
      have hi : i64P (l.getD (k : Int).toNat 0) := h _ (getD_mem 0 hlt)
      have h93 := C115 hi
      have hst := wd_step hlt
      have hz : (bs (wdS (l.take k))).size ≤ 22000 := by
        have := wd_len (l := l.take k) (fun n hn => h n (List.mem_of_mem_take hn))
        rw [bs_size]; rw [List.length_take] at this; omega
      have hz2 : (bs (itoa (l.getD (k : Int).toNat 0))).size ≤ 21 := by
        rw [bs_size]; exact itoa_length_le _ hi.1 hi.2
      have hs1 : (ByteArray.mk #[32]).size = 1 := rfl
      by_cases hk0 : k = 0
      · subst hk0
        rw [if_pos rfl] at hst
        have hW : wdS (l.take 0) = [] := rfl
        rw [hW] at hz ⊢
        have h0 : (bs ([] : By)).size = 0 := rfl
        generalize hI : itoa (l.getD ((0 : Nat) : Int).toNat 0) = I at h93 hz2
        have hI : itoa (l.getD 0 0) = I := hI
        rw [hI] at hst
        have hst := Hd.mk hst
        have ho2 : (((bs ([] : By)).size + (bs I).size : Nat) : Int) ≤ 9223372036854775807 := by omega
        clear hI hW
        (repeat' first | (refine Owe.same ?_; refine Owe.mk ?_ ?_) | (refine Fork.same ?_; (first | refine fkD ?_ ?_ | refine fkN ?_ ?_ | refine fkM ?_ ?_) <;> intro h) | ((first | refine OpsL.same ?_ | refine OpsDL.same ?_); first | refine oK h93 rfl rfl rfl ?_) | refine MvQ.stay ?_)
        all_goals first | trivial | exact absurd rfl h | skip
        · refine again 1 [] hlt (by omega) ?_
          (refine qis ?_ ?_ <;> (repeat' first | exact rfl | (refine qS ?_; constructor)))
          refine VEq.str ?_
          rw [hst.h]
          rfl
      · have hne := wd_ne hlt (by omega)
        rw [if_neg hk0] at hst
        generalize hW : wdS (l.take k) = W at hst hz hne ⊢
        generalize hI : itoa (l.getD (k : Int).toNat 0) = I at h93 hz2
        have hI : itoa (l.getD k 0) = I := hI
        rw [hI] at hst
        have hst := Hd.mk hst
        have ho1 : (((bs W).size + (ByteArray.mk #[32]).size : Nat) : Int) ≤ 9223372036854775807 := by omega
        have ho3 : (((bs (W ++ [32])).size + (bs I).size : Nat) : Int) ≤ 9223372036854775807 := by
          have : (bs (W ++ [32])).size = (bs W).size + 1 := by rw [bs_size, bs_size]; simp
          omega
        have hne : ¬ (bs W).data.toList = (ByteArray.mk #[]).data.toList := fun e => hne (by simpa [bs] using e)
        clear hI hW
        (repeat' first | (refine Owe.same ?_; refine Owe.mk ?_ ?_) | (refine Fork.same ?_; (first | refine fkD ?_ ?_ | refine fkN ?_ ?_ | refine fkM ?_ ?_) <;> intro h) | ((first | refine OpsL.same ?_ | refine OpsDL.same ?_); first | refine oK h93 rfl rfl rfl ?_) | refine MvQ.stay ?_)
        all_goals first | exact absurd h hne | skip
        · trivial
        · exact ho1
        · clear hi ho1 ho3; exact ⟨by omega, by omega⟩
        · exact ho3
        · clear hi ho1 ho3; exact ⟨by omega, by omega⟩
        · refine again (k + 1) [] hlt (by omega) ?_
          (refine qis ?_ ?_ <;> (repeat' first | exact rfl | (refine qS ?_; constructor)))
          refine VEq.str ?_
          rw [hst.h]
          simp [bs]
    · have hk1 : k = l.length := by omega
      have hw : wdS (l.take k) = wdS l := by rw [List.take_of_length_le (by omega)]
      rw [hw]
      (repeat' first | (refine Owe.same ?_; first | refine Owe.o ?_ | refine Owe.mk ?_ ?_) | (refine Fork.same ?_; (first | refine fkD ?_ ?_ | refine fkN ?_ ?_ | refine fkM ?_ ?_) <;> intro h) | refine MvQ.stay ?_)
      (refine rqK rfl ?_; (repeat' first | exact rfl | (refine qS ?_; constructor)))
end Go.Pw
set_option linter.unusedSimpArgs false
set_option linter.unusedVariables false
set_option maxHeartbeats 1000000
namespace Go.Pw
open Go.RowKit Go.Lib
set_option maxRecDepth 2000
open Go Go.Proofs A1 A2 A3 A4
theorem drop_cons' {s : By} {k : Nat} (h : k < s.length) : s.drop k = s.getD k 0 :: s.drop (k + 1) := by
  rw [List.drop_eq_getElem_cons h, List.getD_eq_getElem?_getD, List.getElem?_eq_getElem h]; rfl
theorem C101 {s : By} {c : UInt8} : s.length ≤ 1000000 → PFD Tryz.prog 101 [sv s, vi .u8 c.toNat] (.c (sts (cutG c [] s))) := fun hs => by
  have hsz : (bs s).size = s.length := bs_size s
  refine pi1 fn101 ?_
  (repeat' first | (refine Owe.same ?_; first | refine Owe.o ?_ | refine Owe.mk ?_ ?_) | (refine Fork.same ?_; (first | refine fkD ?_ ?_ | refine fkN ?_ ?_ | refine fkM ?_ ?_) <;> intro h) | refine MvQ.stay ?_)
  refine Sat.nilS 5 9 1 (fun i => rS (([] : List By).getD i [])) rfl ?_
  refine Sat.lp (fun st : Nat × Nat × List By => ⟨[(0, sv s), (1, vi .u8 c.toNat), (5, .c (.ms 0 st.2.2.length)), (6, vi .i64 st.2.1), (7, vi .i64 st.1)], [(0, rowv 9 1 rS [] st.2.2)], 1⟩)
    (fun st : Nat × Nat × List By => (st.1 ≤ s.length ∧ st.2.1 ≤ st.1 ∧ st.2.2.length ≤ st.1) ∧ Hd (cutG c [] s = st.2.2 ++ cutG c ((s.take st.1).drop st.2.1) (s.drop st.1))) (fun st : Nat × Nat × List By => s.length - st.1) (0, 0, []) [0] ⟨by simp, ⟨by simp⟩⟩ ?_ ?_
  · (refine qis ?_ ?_ <;> (repeat' first | exact rfl | (refine qS ?_; constructor)))
  · rintro ⟨k, fr, out⟩ ⟨⟨hk, hfr, hout⟩, hc⟩
    simp only at hk hfr hout hc
    refine Fork.dec (fun hlt => ?_) (fun hlt => ?_)
    · have hlt : k < s.length := by have : (k : Int) < (bs s).size := hlt; omega
      have hcc := hc.h
      rw [drop_cons' hlt, cutG] at hcc
      (repeat' first | (refine Owe.same ?_; first | refine Owe.o ?_ | refine Owe.mk ?_ ?_) | (refine Fork.same ?_; (first | refine fkD ?_ ?_ | refine fkN ?_ ?_ | refine fkM ?_ ?_) <;> intro h) | refine MvQ.stay ?_)
      · have h : ((s.getD (k : Int).toNat 0).toNat : Int) = c.toNat := h
        have hx : s.getD k 0 = c := UInt8.toNat_inj.1 (by have h : ((s.getD k 0).toNat : Int) = c.toNat := h; omega)
        rw [if_pos hx] at hcc
        refine again (k + 1, k + 1, out ++ [(s.take k).drop fr]) [1] ⟨⟨hlt, Nat.le_refl _, by simp; omega⟩, ⟨by
          show cutG c [] s = (out ++ [(s.take k).drop fr]) ++ cutG c ((s.take (k + 1)).drop (k + 1)) (s.drop (k + 1))
          rw [List.drop_of_length_le (by rw [List.length_take]; omega : (s.take (k + 1)).length ≤ k + 1), hcc]; simp⟩⟩ (by show s.length - (k + 1) < s.length - k; omega) ?_
        (refine qis ?_ ?_ <;> (repeat' first | exact rfl | (refine qS ?_; constructor)))
        · simp
        · exact ⟨(s.take k).drop fr, congrArg (fun z => [D.v (.string z)]) cutB_bs, rfl⟩
      · have hx : ¬ s.getD k 0 = c := fun e => h (by show ((s.getD k 0).toNat : Int) = c.toNat; rw [e])
        rw [if_neg hx] at hcc
        refine again (k + 1, fr, out) [0] ⟨⟨hlt, by show fr ≤ k + 1; omega, by show out.length ≤ k + 1; omega⟩, ⟨by
          rw [hcc]
          have : ((s.take (k + 1)).drop fr) = (s.take k).drop fr ++ [s.getD k 0] := by
            rw [tk1 0 hlt, List.drop_append_of_le_length (by rw [List.length_take]; omega)]
          show _ = out ++ cutG c ((s.take (k + 1)).drop fr) (s.drop (k + 1))
          rw [this]⟩⟩ (by show s.length - (k + 1) < s.length - k; omega) ?_
        (refine qis ?_ ?_ <;> (repeat' first | exact rfl | (refine qS ?_; constructor)))
    · have hk1 : k = s.length := by have : ¬ (k : Int) < (bs s).size := hlt; omega
      subst hk1
      have hcc := hc.h
      rw [List.drop_length, List.take_length, cutG] at hcc
      (repeat' first | (refine Owe.same ?_; first | refine Owe.o ?_ | refine Owe.mk ?_ ?_) | (refine Fork.same ?_; (first | refine fkD ?_ ?_ | refine fkN ?_ ?_ | refine fkM ?_ ?_) <;> intro h) | refine MvQ.stay ?_)
      refine rqF 0 _ rfl rfl rfl ?_; (repeat' first | exact rfl | (refine qS ?_; constructor))
      exact ⟨s.drop fr, rfl, hcc⟩
theorem numV_pos {s : By} {d : Int} (h : s.head? ≠ some 45) : numV s d = if dgOk s d (s.length = 1) then some (dgV 0 s : Int) else none := by
  rw [numV, if_neg h]
theorem u8_ne {a b : UInt8} (h : a ≠ b) : (a.toNat : Int) ≠ b.toNat := fun e => h (UInt8.toNat_inj.1 (by omega))
theorem dg_tk {r : By} {k : Nat} {d : Int} (hd : d ≤ 18) (hk : (k : Int) ≤ d) (h : ∀ b ∈ r.take k, isDg b) : dgV 0 (r.take k) < 1000000000000000000 := by
  have h1 := dgV_lt (r.take k) 0 h
  have h2 := pow18 (k := (r.take k).length) hd (by rw [List.length_take]; omega)
  omega
theorem dg_step {r : By} {k : Nat} (h : k < r.length) : dgV 0 (r.take (k + 1)) = 10 * dgV 0 (r.take k) + ((r.getD k 0).toNat - 48) := by
  rw [tk1 0 h, dgV_app]
theorem C194 {s : By} {d : Int} : (s.length ≤ 1000000 ∧ d ≤ 18) → PFD Tryz.prog 194 [sv s, vi .i64 d] (.tup [vi .i64 ((numV s d).getD 0), vbl (numV s d).isSome]) := fun ⟨hs, hd⟩ => by
  cases s with
  | nil =>
    have e : numV [] d = none := by rw [numV_pos (by simp), if_neg (fun h => h.1 rfl)]
    have hsz : (bs []).size = 0 := rfl
    rw [e]
    refine pi2 fn194 ?_
    (repeat' first | (refine Owe.same ?_; first | refine Owe.o ?_ | refine Owe.mk ?_ ?_) | (refine Fork.same ?_; (first | refine fkY ?_ | refine fkF ?_ | ((first | refine fkD ?_ ?_ | refine fkN ?_ ?_ | refine fkM ?_ ?_) <;> intro h))) | ((first | refine OpsL.same ?_ | refine OpsDL.same ?_); first | refine oK C46 rfl rfl rfl ?_) | refine MvQ.stay ?_)
    (refine rqK rfl ?_; (repeat' first | exact rfl | (refine qS ?_; constructor)))
  | cons b r =>
    by_cases hb : b = 45
    · subst hb
      rw [numV_neg]
      have hz : (bs (45 :: r)).size = r.length + 1 := bs_size _
      have hrl : r.length + 1 ≤ 1000000 := hs
      have h0 : (((bs (45 :: r)).data.toList.getD (Int.toNat 0) 0).toNat : Int) = 45 := rfl
      by_cases hok : r ≠ [] ∧ (r.length : Int) ≤ d ∧ (r.head? = some 48 → False)
      · have hne : 0 < r.length := List.length_pos_iff.2 hok.1
        have hle := hok.2.1
        have h48 : ((bs (45 :: r)).data.toList.getD (Int.toNat 1) 0).toNat ≠ 48 := by
          obtain ⟨x, q, rfl⟩ : ∃ x q, r = x :: q := by cases r with | nil => exact absurd rfl hok.1 | cons x q => exact ⟨x, q, rfl⟩
          have hx : x ≠ 48 := fun e => hok.2.2 (by rw [e]; rfl)
          have := u8_ne hx
          show x.toNat ≠ 48
          have e48 : (48 : UInt8).toNat = 48 := rfl
          rw [e48] at this; omega
        have hRl : r.length = r.length := rfl
        refine pi2 fn194 ?_
        (repeat' first | (refine Owe.same ?_; first | refine Owe.o ?_ | refine Owe.mk ?_ ?_) | (refine Fork.same ?_; (first | refine fkY ?_ | refine fkF ?_ | ((first | refine fkD ?_ ?_ | refine fkN ?_ ?_ | refine fkM ?_ ?_) <;> intro h))) | ((first | refine OpsL.same ?_ | refine OpsDL.same ?_); first | refine oK C46 rfl rfl rfl ?_) | refine MvQ.stay ?_)
        refine Sat.lp (fun k : Nat => ⟨[(0, sv (45 :: r)), (6, vi .i64 1), (7, vi .i64 (dgV 0 (r.take k) : Int)), (8, vi .i64 (1 + (k : Int)))], [], 0⟩)
          (fun k => k ≤ r.length ∧ Hd (∀ x ∈ r.take k, isDg x)) (fun k => r.length - k) 0 [] ⟨Nat.zero_le _, ⟨by simp⟩⟩ ?_ ?_
        · (refine qis ?_ ?_ <;> (repeat' first | exact rfl | (refine qS ?_; constructor)))
        · rintro k ⟨hk, hdg⟩
          have hV := dg_tk (r := r) (k := k) hd (by omega) hdg.h
          refine Fork.dec (fun hlt => ?_) (fun hlt => ?_)
          · have hlt : k < r.length := by omega
            have hst := dg_step hlt
            have hx0 := (r.getD k 0).toNat_lt
            generalize hX : (r.getD k 0).toNat = X at hst hx0
            have hg : (bs (45 :: r)).data.toList.getD ((1 : Int) + (k : Int)).toNat 0 = r.getD k 0 := by
              rw [show ((1 : Int) + (k : Int)).toNat = k + 1 by omega]; rfl
            have hgX : (((bs (45 :: r)).data.toList.getD ((1 : Int) + (k : Int)).toNat 0).toNat : Int) = X := by rw [hg, hX]
            by_cases hdx : 48 ≤ X ∧ X ≤ 57
            · have hw8 : IntKind.u8.wrap (((bs (45 :: r)).data.toList.getD ((1 : Int) + (k : Int)).toNat 0).toNat - 48) = (X : Int) - 48 := by rw [hgX]; exact u8w (by omega) (by omega)
              have hdg1 : Hd (∀ x ∈ r.take (k + 1), isDg x) := ⟨fun x hb => by
                rw [tk1 0 hlt, List.mem_append, List.mem_singleton] at hb
                rcases hb with hb | hb
                · exact hdg.h x hb
                · subst hb; show 48 ≤ (r.getD k 0).toNat ∧ (r.getD k 0).toNat ≤ 57; rw [hX]; exact hdx⟩
              have hV1 := dg_tk (r := r) (k := k + 1) hd (by omega) hdg1.h
              rw [hst] at hV1
              (repeat' first | (refine Owe.same ?_; first | refine Owe.o ?_ | refine Owe.mk ?_ ?_) | (refine Fork.same ?_; (first | refine fkY ?_ | refine fkF ?_ | ((first | refine fkD ?_ ?_ | refine fkN ?_ ?_ | refine fkM ?_ ?_) <;> intro h))) | ((first | refine OpsL.same ?_ | refine OpsDL.same ?_); first | refine oK C46 rfl rfl rfl ?_) | refine MvQ.stay ?_)
              · rw [hw8]
                simp only [R64, and_true]
                omega
              · refine again (k + 1) [] ⟨hlt, hdg1⟩ (by omega) ?_
                (refine qis ?_ ?_ <;> (repeat' first | exact rfl | (refine qS ?_; constructor)))
                rw [hw8, hst]; omega
            · rw [if_neg (fun h => hdx (by have h3 := h.2.2.2 _ (getD_mem 0 hlt); rw [← hX]; exact h3))]
              (repeat' first | (refine Owe.same ?_; first | refine Owe.o ?_ | refine Owe.mk ?_ ?_) | (refine Fork.same ?_; (first | refine fkY ?_ | refine fkF ?_ | ((first | refine fkD ?_ ?_ | refine fkN ?_ ?_ | refine fkM ?_ ?_) <;> intro h))) | ((first | refine OpsL.same ?_ | refine OpsDL.same ?_); first | refine oK C46 rfl rfl rfl ?_) | refine MvQ.stay ?_)
              · (refine rqK rfl ?_; (repeat' first | exact rfl | (refine qS ?_; constructor)))
              · (refine rqK rfl ?_; (repeat' first | exact rfl | (refine qS ?_; constructor)))
          · have hk1 : k = r.length := by omega
            have htk : r.take k = r := by rw [hk1, List.take_length]
            have hdg := hdg.h
            rw [htk] at hV hdg
            rw [htk, if_pos ⟨hok.1, hok.2.1, hok.2.2, hdg⟩]
            (repeat' first | (refine Owe.same ?_; first | refine Owe.o ?_ | refine Owe.mk ?_ ?_) | (refine Fork.same ?_; (first | refine fkY ?_ | refine fkF ?_ | ((first | refine fkD ?_ ?_ | refine fkN ?_ ?_ | refine fkM ?_ ?_) <;> intro h))) | ((first | refine OpsL.same ?_ | refine OpsDL.same ?_); first | refine oK C46 rfl rfl rfl ?_) | refine MvQ.stay ?_)
            (refine rqK rfl ?_; (repeat' first | exact rfl | (refine qS ?_; constructor)))
      · rw [if_neg (fun h => hok ⟨h.1, h.2.1, h.2.2.1⟩)]
        by_cases h1 : r.length = 0
        · refine pi2 fn194 ?_
          (repeat' first | (refine Owe.same ?_; first | refine Owe.o ?_ | refine Owe.mk ?_ ?_) | (refine Fork.same ?_; (first | refine fkY ?_ | refine fkF ?_ | ((first | refine fkD ?_ ?_ | refine fkN ?_ ?_ | refine fkM ?_ ?_) <;> intro h))) | ((first | refine OpsL.same ?_ | refine OpsDL.same ?_); first | refine oK C46 rfl rfl rfl ?_) | refine MvQ.stay ?_)
          (refine rqK rfl ?_; (repeat' first | exact rfl | (refine qS ?_; constructor)))
        · by_cases h2 : d < (r.length : Int)
          · refine pi2 fn194 ?_
            (repeat' first | (refine Owe.same ?_; first | refine Owe.o ?_ | refine Owe.mk ?_ ?_) | (refine Fork.same ?_; (first | refine fkY ?_ | refine fkF ?_ | ((first | refine fkD ?_ ?_ | refine fkN ?_ ?_ | refine fkM ?_ ?_) <;> intro h))) | ((first | refine OpsL.same ?_ | refine OpsDL.same ?_); first | refine oK C46 rfl rfl rfl ?_) | refine MvQ.stay ?_)
            (refine rqK rfl ?_; (repeat' first | exact rfl | (refine qS ?_; constructor)))
          · obtain ⟨x, q, rfl⟩ : ∃ x q, r = x :: q := by cases r with | nil => exact absurd rfl h1 | cons x q => exact ⟨x, q, rfl⟩
            have hx : x = 48 := by
              refine Classical.byContradiction fun hx => hok ⟨by simp, by omega, fun e => hx (by simpa using e)⟩
            have h48 : ((bs (45 :: x :: q)).data.toList.getD (Int.toNat 1) 0).toNat = 48 := by rw [hx]; rfl
            refine pi2 fn194 ?_
            (repeat' first | (refine Owe.same ?_; first | refine Owe.o ?_ | refine Owe.mk ?_ ?_) | (refine Fork.same ?_; (first | refine fkY ?_ | refine fkF ?_ | ((first | refine fkD ?_ ?_ | refine fkN ?_ ?_ | refine fkM ?_ ?_) <;> intro h))) | ((first | refine OpsL.same ?_ | refine OpsDL.same ?_); first | refine oK C46 rfl rfl rfl ?_) | refine MvQ.stay ?_)
            (refine rqK rfl ?_; (repeat' first | exact rfl | (refine qS ?_; constructor)))
    · rw [numV_pos (fun e => hb (by simpa using e))]
      by_cases hb48 : b = 48
      · have hz : (bs (b :: r)).size = r.length + 1 := bs_size _
        have hrl : r.length + 1 ≤ 1000000 := hs
        have h0 : (((bs (b :: r)).data.toList.getD (Int.toNat 0) 0).toNat : Int) ≠ 45 := u8_ne hb
        by_cases hok : (b :: r) ≠ [] ∧ ((b :: r).length : Int) ≤ d ∧ ((b :: r).head? = some 48 → (b :: r).length = 1)
        · have hne : 0 < (b :: r).length := List.length_pos_iff.2 hok.1
          have hle := hok.2.1
          have h48 : ((bs (b :: r)).data.toList.getD (Int.toNat 0) 0).toNat = 48 ∧ r.length = 0 := by
            have := hok.2.2 (by rw [hb48]; rfl)
            exact ⟨by rw [hb48]; rfl, by simpa using this⟩
          have hRl : (b :: r).length = r.length + 1 := rfl
          refine pi2 fn194 ?_
          (repeat' first | (refine Owe.same ?_; first | refine Owe.o ?_ | refine Owe.mk ?_ ?_) | (refine Fork.same ?_; (first | refine fkY ?_ | refine fkF ?_ | ((first | refine fkD ?_ ?_ | refine fkN ?_ ?_ | refine fkM ?_ ?_) <;> intro h))) | ((first | refine OpsL.same ?_ | refine OpsDL.same ?_); first | refine oK C46 rfl rfl rfl ?_) | refine MvQ.stay ?_)
          refine Sat.lp (fun k : Nat => ⟨[(0, sv (b :: r)), (6, vi .i64 0), (7, vi .i64 (dgV 0 ((b :: r).take k) : Int)), (8, vi .i64 (0 + (k : Int)))], [], 0⟩)
            (fun k => k ≤ (b :: r).length ∧ Hd (∀ x ∈ (b :: r).take k, isDg x)) (fun k => (b :: r).length - k) 0 [] ⟨Nat.zero_le _, ⟨by simp⟩⟩ ?_ ?_
          · (refine qis ?_ ?_ <;> (repeat' first | exact rfl | (refine qS ?_; constructor)))
          · rintro k ⟨hk, hdg⟩
            have hV := dg_tk (r := (b :: r)) (k := k) hd (by omega) hdg.h
            refine Fork.dec (fun hlt => ?_) (fun hlt => ?_)
            · have hlt : k < (b :: r).length := by omega
              have hst := dg_step hlt
              have hx0 := ((b :: r).getD k 0).toNat_lt
              generalize hX : ((b :: r).getD k 0).toNat = X at hst hx0
              have hg : (bs (b :: r)).data.toList.getD ((0 : Int) + (k : Int)).toNat 0 = (b :: r).getD k 0 := by
                rw [show ((0 : Int) + (k : Int)).toNat = k + 0 by omega]; rfl
              have hgX : (((bs (b :: r)).data.toList.getD ((0 : Int) + (k : Int)).toNat 0).toNat : Int) = X := by rw [hg, hX]
              by_cases hdx : 48 ≤ X ∧ X ≤ 57
              · have hw8 : IntKind.u8.wrap (((bs (b :: r)).data.toList.getD ((0 : Int) + (k : Int)).toNat 0).toNat - 48) = (X : Int) - 48 := by rw [hgX]; exact u8w (by omega) (by omega)
                have hdg1 : Hd (∀ x ∈ (b :: r).take (k + 1), isDg x) := ⟨fun x hb => by
                  rw [tk1 0 hlt, List.mem_append, List.mem_singleton] at hb
                  rcases hb with hb | hb
                  · exact hdg.h x hb
                  · subst hb; show 48 ≤ ((b :: r).getD k 0).toNat ∧ ((b :: r).getD k 0).toNat ≤ 57; rw [hX]; exact hdx⟩
                have hV1 := dg_tk (r := (b :: r)) (k := k + 1) hd (by omega) hdg1.h
                rw [hst] at hV1
                (repeat' first | (refine Owe.same ?_; first | refine Owe.o ?_ | refine Owe.mk ?_ ?_) | (refine Fork.same ?_; (first | refine fkY ?_ | refine fkF ?_ | ((first | refine fkD ?_ ?_ | refine fkN ?_ ?_ | refine fkM ?_ ?_) <;> intro h))) | ((first | refine OpsL.same ?_ | refine OpsDL.same ?_); first | refine oK C46 rfl rfl rfl ?_) | refine MvQ.stay ?_)
                · rw [hw8]
                  simp only [R64, and_true]
                  omega
                · refine again (k + 1) [] ⟨hlt, hdg1⟩ (by omega) ?_
                  (refine qis ?_ ?_ <;> (repeat' first | exact rfl | (refine qS ?_; constructor)))
                  rw [hw8, hst]; omega
              · rw [if_neg (fun h => hdx (by have h3 := h.2.2.2 _ (getD_mem 0 hlt); rw [← hX]; exact h3))]
                (repeat' first | (refine Owe.same ?_; first | refine Owe.o ?_ | refine Owe.mk ?_ ?_) | (refine Fork.same ?_; (first | refine fkY ?_ | refine fkF ?_ | ((first | refine fkD ?_ ?_ | refine fkN ?_ ?_ | refine fkM ?_ ?_) <;> intro h))) | ((first | refine OpsL.same ?_ | refine OpsDL.same ?_); first | refine oK C46 rfl rfl rfl ?_) | refine MvQ.stay ?_)
                · (refine rqK rfl ?_; (repeat' first | exact rfl | (refine qS ?_; constructor)))
                · (refine rqK rfl ?_; (repeat' first | exact rfl | (refine qS ?_; constructor)))
            · have hk1 : k = (b :: r).length := by omega
              have htk : (b :: r).take k = (b :: r) := by rw [hk1, List.take_length]
              have hdg := hdg.h
              rw [htk] at hV hdg
              rw [htk, if_pos ⟨hok.1, hok.2.1, hok.2.2, hdg⟩]
              (repeat' first | (refine Owe.same ?_; first | refine Owe.o ?_ | refine Owe.mk ?_ ?_) | (refine Fork.same ?_; (first | refine fkY ?_ | refine fkF ?_ | ((first | refine fkD ?_ ?_ | refine fkN ?_ ?_ | refine fkM ?_ ?_) <;> intro h))) | ((first | refine OpsL.same ?_ | refine OpsDL.same ?_); first | refine oK C46 rfl rfl rfl ?_) | refine MvQ.stay ?_)
              (refine rqK rfl ?_; (repeat' first | exact rfl | (refine qS ?_; constructor)))
        · rw [if_neg (fun h => hok ⟨h.1, h.2.1, h.2.2.1⟩)]
          by_cases h2 : d < (r.length : Int) + 1
          · refine pi2 fn194 ?_
            (repeat' first | (refine Owe.same ?_; first | refine Owe.o ?_ | refine Owe.mk ?_ ?_) | (refine Fork.same ?_; (first | refine fkY ?_ | refine fkF ?_ | ((first | refine fkD ?_ ?_ | refine fkN ?_ ?_ | refine fkM ?_ ?_) <;> intro h))) | ((first | refine OpsL.same ?_ | refine OpsDL.same ?_); first | refine oK C46 rfl rfl rfl ?_) | refine MvQ.stay ?_)
            (refine rqK rfl ?_; (repeat' first | exact rfl | (refine qS ?_; constructor)))
          · have hx : b = 48 ∧ r.length ≠ 0 := by
              refine Classical.byContradiction fun hx => hok ⟨by simp, by rw [List.length_cons]; omega, fun e => ?_⟩
              have hb48 : b = 48 := by simpa using e
              refine Classical.byContradiction fun hl => hx ⟨hb48, fun e => hl (by rw [List.length_cons, e])⟩
            have h48 : ((bs (b :: r)).data.toList.getD (Int.toNat 0) 0).toNat = 48 := by rw [hx.1]; rfl
            have hx2 := hx.2
            refine pi2 fn194 ?_
            (repeat' first | (refine Owe.same ?_; first | refine Owe.o ?_ | refine Owe.mk ?_ ?_) | (refine Fork.same ?_; (first | refine fkY ?_ | refine fkF ?_ | ((first | refine fkD ?_ ?_ | refine fkN ?_ ?_ | refine fkM ?_ ?_) <;> intro h))) | ((first | refine OpsL.same ?_ | refine OpsDL.same ?_); first | refine oK C46 rfl rfl rfl ?_) | refine MvQ.stay ?_)
            (refine rqK rfl ?_; (repeat' first | exact rfl | (refine qS ?_; constructor)))
      · have hz : (bs (b :: r)).size = r.length + 1 := bs_size _
        have hrl : r.length + 1 ≤ 1000000 := hs
        have h0 : (((bs (b :: r)).data.toList.getD (Int.toNat 0) 0).toNat : Int) ≠ 45 := u8_ne hb
        by_cases hok : (b :: r) ≠ [] ∧ ((b :: r).length : Int) ≤ d ∧ ((b :: r).head? = some 48 → (b :: r).length = 1)
        · have hne : 0 < (b :: r).length := List.length_pos_iff.2 hok.1
          have hle := hok.2.1
          have h48 : (((bs (b :: r)).data.toList.getD (Int.toNat 0) 0).toNat : Int) ≠ 48 := u8_ne hb48
          have hRl : (b :: r).length = r.length + 1 := rfl
          refine pi2 fn194 ?_
          (repeat' first | (refine Owe.same ?_; first | refine Owe.o ?_ | refine Owe.mk ?_ ?_) | (refine Fork.same ?_; (first | refine fkY ?_ | refine fkF ?_ | ((first | refine fkD ?_ ?_ | refine fkN ?_ ?_ | refine fkM ?_ ?_) <;> intro h))) | ((first | refine OpsL.same ?_ | refine OpsDL.same ?_); first | refine oK C46 rfl rfl rfl ?_) | refine MvQ.stay ?_)
          refine Sat.lp (fun k : Nat => ⟨[(0, sv (b :: r)), (6, vi .i64 0), (7, vi .i64 (dgV 0 ((b :: r).take k) : Int)), (8, vi .i64 (0 + (k : Int)))], [], 0⟩)
            (fun k => k ≤ (b :: r).length ∧ Hd (∀ x ∈ (b :: r).take k, isDg x)) (fun k => (b :: r).length - k) 0 [] ⟨Nat.zero_le _, ⟨by simp⟩⟩ ?_ ?_
          · (refine qis ?_ ?_ <;> (repeat' first | exact rfl | (refine qS ?_; constructor)))
          · rintro k ⟨hk, hdg⟩
            have hV := dg_tk (r := (b :: r)) (k := k) hd (by omega) hdg.h
            refine Fork.dec (fun hlt => ?_) (fun hlt => ?_)
            · have hlt : k < (b :: r).length := by omega
              have hst := dg_step hlt
              have hx0 := ((b :: r).getD k 0).toNat_lt
              generalize hX : ((b :: r).getD k 0).toNat = X at hst hx0
              have hg : (bs (b :: r)).data.toList.getD ((0 : Int) + (k : Int)).toNat 0 = (b :: r).getD k 0 := by
                rw [show ((0 : Int) + (k : Int)).toNat = k + 0 by omega]; rfl
              have hgX : (((bs (b :: r)).data.toList.getD ((0 : Int) + (k : Int)).toNat 0).toNat : Int) = X := by rw [hg, hX]
              by_cases hdx : 48 ≤ X ∧ X ≤ 57
              · have hw8 : IntKind.u8.wrap (((bs (b :: r)).data.toList.getD ((0 : Int) + (k : Int)).toNat 0).toNat - 48) = (X : Int) - 48 := by rw [hgX]; exact u8w (by omega) (by omega)
                have hdg1 : Hd (∀ x ∈ (b :: r).take (k + 1), isDg x) := ⟨fun x hb => by
                  rw [tk1 0 hlt, List.mem_append, List.mem_singleton] at hb
                  rcases hb with hb | hb
                  · exact hdg.h x hb
                  · subst hb; show 48 ≤ ((b :: r).getD k 0).toNat ∧ ((b :: r).getD k 0).toNat ≤ 57; rw [hX]; exact hdx⟩
                have hV1 := dg_tk (r := (b :: r)) (k := k + 1) hd (by omega) hdg1.h
                rw [hst] at hV1
                (repeat' first | (refine Owe.same ?_; first | refine Owe.o ?_ | refine Owe.mk ?_ ?_) | (refine Fork.same ?_; (first | refine fkY ?_ | refine fkF ?_ | ((first | refine fkD ?_ ?_ | refine fkN ?_ ?_ | refine fkM ?_ ?_) <;> intro h))) | ((first | refine OpsL.same ?_ | refine OpsDL.same ?_); first | refine oK C46 rfl rfl rfl ?_) | refine MvQ.stay ?_)
                · rw [hw8]
                  simp only [R64, and_true]
                  omega
                · refine again (k + 1) [] ⟨hlt, hdg1⟩ (by omega) ?_
                  (refine qis ?_ ?_ <;> (repeat' first | exact rfl | (refine qS ?_; constructor)))
                  rw [hw8, hst]; omega
              · rw [if_neg (fun h => hdx (by have h3 := h.2.2.2 _ (getD_mem 0 hlt); rw [← hX]; exact h3))]
                (repeat' first | (refine Owe.same ?_; first | refine Owe.o ?_ | refine Owe.mk ?_ ?_) | (refine Fork.same ?_; (first | refine fkY ?_ | refine fkF ?_ | ((first | refine fkD ?_ ?_ | refine fkN ?_ ?_ | refine fkM ?_ ?_) <;> intro h))) | ((first | refine OpsL.same ?_ | refine OpsDL.same ?_); first | refine oK C46 rfl rfl rfl ?_) | refine MvQ.stay ?_)
                · (refine rqK rfl ?_; (repeat' first | exact rfl | (refine qS ?_; constructor)))
                · (refine rqK rfl ?_; (repeat' first | exact rfl | (refine qS ?_; constructor)))
            · have hk1 : k = (b :: r).length := by omega
              have htk : (b :: r).take k = (b :: r) := by rw [hk1, List.take_length]
              have hdg := hdg.h
              rw [htk] at hV hdg
              rw [htk, if_pos ⟨hok.1, hok.2.1, hok.2.2, hdg⟩]
              (repeat' first | (refine Owe.same ?_; first | refine Owe.o ?_ | refine Owe.mk ?_ ?_) | (refine Fork.same ?_; (first | refine fkY ?_ | refine fkF ?_ | ((first | refine fkD ?_ ?_ | refine fkN ?_ ?_ | refine fkM ?_ ?_) <;> intro h))) | ((first | refine OpsL.same ?_ | refine OpsDL.same ?_); first | refine oK C46 rfl rfl rfl ?_) | refine MvQ.stay ?_)
              (refine rqK rfl ?_; (repeat' first | exact rfl | (refine qS ?_; constructor)))
        · rw [if_neg (fun h => hok ⟨h.1, h.2.1, h.2.2.1⟩)]
          by_cases h2 : d < (r.length : Int) + 1
          · refine pi2 fn194 ?_
            (repeat' first | (refine Owe.same ?_; first | refine Owe.o ?_ | refine Owe.mk ?_ ?_) | (refine Fork.same ?_; (first | refine fkY ?_ | refine fkF ?_ | ((first | refine fkD ?_ ?_ | refine fkN ?_ ?_ | refine fkM ?_ ?_) <;> intro h))) | ((first | refine OpsL.same ?_ | refine OpsDL.same ?_); first | refine oK C46 rfl rfl rfl ?_) | refine MvQ.stay ?_)
            (refine rqK rfl ?_; (repeat' first | exact rfl | (refine qS ?_; constructor)))
          · have hx : b = 48 ∧ r.length ≠ 0 := by
              refine Classical.byContradiction fun hx => hok ⟨by simp, by rw [List.length_cons]; omega, fun e => ?_⟩
              have hb48 : b = 48 := by simpa using e
              refine Classical.byContradiction fun hl => hx ⟨hb48, fun e => hl (by rw [List.length_cons, e])⟩
            have h48 : ((bs (b :: r)).data.toList.getD (Int.toNat 0) 0).toNat = 48 := by rw [hx.1]; rfl
            have hx2 := hx.2
            refine pi2 fn194 ?_
            (repeat' first | (refine Owe.same ?_; first | refine Owe.o ?_ | refine Owe.mk ?_ ?_) | (refine Fork.same ?_; (first | refine fkY ?_ | refine fkF ?_ | ((first | refine fkD ?_ ?_ | refine fkN ?_ ?_ | refine fkM ?_ ?_) <;> intro h))) | ((first | refine OpsL.same ?_ | refine OpsDL.same ?_); first | refine oK C46 rfl rfl rfl ?_) | refine MvQ.stay ?_)
            (refine rqK rfl ?_; (repeat' first | exact rfl | (refine qS ?_; constructor)))
def alL {α : Type} (f : By → Option α) : List By → Option (List α)
  | [] => some []
  | w :: r => match f w, alL f r with
    | some n, some l => some (n :: l)
    | _, _ => none
theorem alL_app {α : Type} {f : By → Option α} {w : By} : ∀ {l : List By} {a : List α}, alL f l = some a → alL f (l ++ [w]) = match f w with | some n => some (a ++ [n]) | none => none
  | [], a, h => by
    cases h
    cases hw : f w <;> simp [alL, hw]
  | x :: l, a, h => by
    rw [alL] at h
    rw [List.cons_append, alL]
    split at h
    · rename_i n m hn hm
      cases h
      rw [alL_app hm, hn]
      cases f w <;> simp
    · cases h
theorem alL_bad {α : Type} {f : By → Option α} {w : By} (hw : f w = none) : ∀ {l r : List By}, alL f (l ++ w :: r) = none
  | [], r => by rw [List.nil_append, alL, hw]
  | x :: l, r => by
    rw [List.cons_append, alL, alL_bad hw]
    cases f x <;> rfl
theorem alL_take {α : Type} {f : By → Option α} {l : List By} {k : Nat} (hk : k < l.length) (h : f (l.getD k []) = none) : alL f l = none := by
  have e : l = l.take k ++ l.getD k [] :: l.drop (k + 1) := by
    rw [List.getD_eq_getElem?_getD, List.getElem?_eq_getElem hk]
    exact (List.take_append_drop k l).symm.trans (by rw [List.drop_eq_getElem_cons hk]; rfl)
  rw [e]; exact alL_bad h
theorem alL_len {α : Type} {f : By → Option α} : ∀ {l : List By} {a : List α}, alL f l = some a → a.length = l.length
  | [], a, h => by cases h; rfl
  | x :: l, a, h => by
    rw [alL] at h
    split at h
    · rename_i n m hn hm
      cases h
      rw [List.length_cons, List.length_cons, alL_len hm]
    · cases h
theorem alL_map {α : Type} {f : By → Option α} {g : α → By} : ∀ {l : List α}, (∀ x ∈ l, f (g x) = some x) → alL f (l.map g) = some l
  | [], _ => rfl
  | x :: l, h => by
    rw [List.map_cons, alL, h x (by simp), alL_map (fun y hy => h y (List.mem_cons_of_mem _ hy))]
theorem atoi_i64 {s : By} {v : Int} (h : atoiAll s = .ok v) : i64P v := by
  cases s with
  | nil => cases h
  | cons c r =>
    rw [atoiAll] at h
    split at h
    · cases h
    · cases h
    · rename_i u hu
      split at h
      · cases h
      · split at h
        · cases h
        · rename_i h1 h2
          injection h with h
          subst h
          by_cases hn : c.toNat = 45
          · rw [if_pos hn]
            have : ¬ 9223372036854775808 < u := fun hh => h2 ⟨hn, hh⟩
            omega
          · rw [if_neg hn]
            have : ¬ 9223372036854775808 ≤ u := fun hh => h1 ⟨hn, hh⟩
            omega
theorem C191o {s : By} {v : Int} (h : atoiAll s = .ok v) : s.length ≤ 1000000 → PFD Tryz.prog 191 [sv s] (.tup [vi .i64 v, .c (.d (.v .nilIface))]) := fun hs => by
  have := C191 hs
  unfold atV at this
  rw [h] at this; exact this
theorem C191e {s : By} (h : ∀ v, atoiAll s ≠ .ok v) : s.length ≤ 1000000 → ∃ n, PFD Tryz.prog 191 [sv s] (.tup [vi .i64 n, .c .er]) := fun hs => by
  have := C191 hs
  unfold atV at this
  match e : atoiAll s with
  | .ok v => exact absurd e (h v)
  | Lib.NumEnd.syntax => rw [e] at this; exact ⟨_, this⟩
  | .range => rw [e] at this; exact ⟨_, this⟩
theorem cut_len {c : UInt8} : ∀ {l acc : By}, ∀ x ∈ cutG c acc l, x.length ≤ acc.length + l.length
  | [], acc, x, hx => by rw [cutG, List.mem_singleton] at hx; subst hx; simp
  | y :: l, acc, x, hx => by
    rw [cutG] at hx
    split at hx
    · rcases List.mem_cons.1 hx with h1 | h1
      · subst h1; simp
      · have := cut_len x h1; simp at this ⊢; omega
    · have := cut_len x hx; simp at this ⊢; omega
theorem cut_count {c : UInt8} : ∀ {l acc : By}, (cutG c acc l).length ≤ l.length + 1
  | [], acc => by simp [cutG]
  | y :: l, acc => by
    rw [cutG]; split
    · have := cut_count (c := c) (l := l) (acc := []); simp; omega
    · have := cut_count (c := c) (l := l) (acc := acc ++ [y]); simp; omega
def ntV (d : Int) (w : By) : Option Int := match numV w d with
  | some n => if 0 ≤ n then some n else none
  | none => none
abbrev naL (d : Int) (W : List By) : Option (List Int) := alL (ntV d) W
theorem ntV_ok {d : Int} (hd : d ≤ 18) {w : By} {v : Int} (h1 : atoiAll w = .ok v) (h2 : 0 ≤ v) (h3 : itoa v = w) (h4 : (w.length : Int) ≤ d) : ntV d w = some v := by
  have h := ((nat_iff hd).1 ⟨h1, h2, h3, h4⟩).1
  unfold ntV; rw [h]
  simp [h2]
theorem ntV_no {d : Int} (hd : d ≤ 18) {w : By} (h : ¬ ∃ v, atoiAll w = .ok v ∧ 0 ≤ v ∧ itoa v = w ∧ (w.length : Int) ≤ d) : ntV d w = none := by
  cases hn : numV w d with
  | none => unfold ntV; rw [hn]
  | some n =>
    unfold ntV; rw [hn]
    by_cases h0 : 0 ≤ n
    · exact absurd ⟨n, (nat_iff hd).2 ⟨hn, h0⟩⟩ h
    · simp [h0]
theorem naL_bad {d : Int} {s w : By} {dn rr : List By} (h : cutG 32 [] s = dn ++ w :: rr) (hw : ntV d w = none) : naL d (cutG 32 [] s) = none := by
  rw [h]; exact alL_bad hw
theorem C112 {s : By} {d : Int} : (s.length ≤ 1000000 ∧ d ≤ 18) → PFD Tryz.prog 112 [sv s, vi .i64 d] (.tup [.c (ints ((naL d (cutG 32 [] s)).getD [])), vbl (naL d (cutG 32 [] s)).isSome]) := fun ⟨hs, hd⟩ => by
  refine pi2 fn112 ?_
  (repeat' first | (refine Owe.same ?_; first | refine Owe.o ?_ | refine Owe.mk ?_ ?_) | (refine Fork.same ?_; (first | refine fkD ?_ ?_ | refine fkN ?_ ?_ | refine fkM ?_ ?_) <;> intro h) | refine MvQ.stay ?_)
  refine Ops.cs rfl rfl (CallS.of fn110 rfl ?_)
  (repeat' first | (refine Owe.same ?_; first | refine Owe.o ?_ | refine Owe.mk ?_ ?_) | (refine Fork.same ?_; (first | refine fkD ?_ ?_ | refine fkN ?_ ?_ | refine fkM ?_ ?_) <;> intro h) | refine MvQ.stay ?_)
  refine Ops.cs rfl rfl (CallS.of fn197 rfl ?_)
  (repeat' first | (refine Owe.same ?_; first | refine Owe.o ?_ | refine Owe.mk ?_ ?_) | (refine Fork.same ?_; (first | refine fkD ?_ ?_ | refine fkN ?_ ?_ | refine fkM ?_ ?_) <;> intro h) | refine MvQ.stay ?_)
  refine Sat.keep [3, 4, 5, 6, 11] ?_
  refine Sat.rf rfl rfl (CallS.of fn255 rfl ?_)
  (repeat' first | (refine Owe.same ?_; first | refine Owe.o ?_ | refine Owe.mk ?_ ?_) | (refine Fork.same ?_; (first | refine fkD ?_ ?_ | refine fkN ?_ ?_ | refine fkM ?_ ?_) <;> intro h) | refine MvQ.stay ?_)
  · exact absurd h (by decide)
  refine Sat.nilB 2 0 3 1 (fun i => r1 (([] : List Int).getD i 0)) rfl rfl ?_
  refine Sat.lp (fun st : List Int × By => ⟨[(0, .c (.yd 6)), (1, .c (.bp 4 0)), (2, .c (.bp 3 0)), (3, .c (.bp 5 0))],
      [(0, .box [.d (.v (.slice none 0 0))]), (1, .box [.d (.v (.bool false))]), (2, .box [.ms 7 st.1.length]), (3, .box [.d (svD st.2)]), (4, .box [.d (.v (.string ⟨#[32]⟩))]), (5, .box [int 0]),
       (6, .lp [(3, .c (.rp [dI d])), (4, .c (.bp 0 0)), (5, .c (.bp 1 0)), (6, .c (.bp 2 0)), (11, .c (.fn 255 [4, 3, 5]))] .ready none (RR Tryz.prog 41 [12] ra112 rb112)), (7, rowv 3 1 r1 0 st.1)], 8⟩)
    (fun st : List Int × By => st.1.length + st.2.length ≤ 1000000 ∧ ∃ dn, cutG 32 [] s = dn ++ cutG 32 [] st.2 ∧ naL d dn = some st.1) (fun st : List Int × By => st.2.length) ([], s) [7] ⟨by simpa using hs, [], rfl, rfl⟩ ?_ ?_
  · (refine qis ?_ ?_ <;> (repeat' first | exact rfl | (refine qS ?_; constructor)))
  · rintro ⟨acc, rest⟩ ⟨hlen, dn, hcut, hdn⟩
    simp only at hlen hcut hdn
    rcases ix_cases 32 rest with ⟨hi, hm⟩ | ⟨p, r, rfl, hm, hi⟩
    · have h124 := C249 (l := rest) (c := 32)
      rw [hi] at h124
      (repeat' first | (refine Owe.same ?_; first | refine Owe.o ?_ | refine Owe.mk ?_ ?_) | (refine Fork.same ?_; (first | refine fkD ?_ ?_ | refine fkN ?_ ?_ | refine fkM ?_ ?_) <;> intro h) | ((first | refine OpsL.same ?_ | refine OpsDL.same ?_); first | refine pK h124 rfl rfl ?_) | refine MvQ.stay ?_)
      · refine OpsL.as 50 (sv rest) (.refl _) ?_
        by_cases hok : ∃ v, atoiAll rest = .ok v
        · obtain ⟨v, hv⟩ := hok
          have h88 := C191o hv (by omega)
          have h84 := C181 (atoi_i64 hv)
          have bad : (¬ ∃ v, atoiAll rest = .ok v ∧ 0 ≤ v ∧ itoa v = rest ∧ (rest.length : Int) ≤ d) → naL d (cutG 32 [] s) = none := fun hh => naL_bad (rr := []) (hcut.trans (by rw [cutG_miss hm, List.nil_append])) (ntV_no hd hh)
          have only : ∀ {v'}, atoiAll rest = .ok v' → v' = v := fun h => by rw [hv] at h; injection h with h; exact h.symm
          refine Ops.yd rfl rfl rfl rfl rfl ?_
          (repeat' first | (refine Owe.same ?_; first | refine Owe.o ?_ | refine Owe.mk ?_ ?_) | (refine Fork.same ?_; (first | refine fkD ?_ ?_ | refine fkN ?_ ?_ | refine fkM ?_ ?_) <;> intro h) | refine MvQ.stay ?_)
          refine And.intro rfl (Exists.intro _ (And.intro rfl ?_))
          (repeat' first | (refine Owe.same ?_; first | refine Owe.o ?_ | refine Owe.mk ?_ ?_) | (refine Fork.same ?_; (first | refine fkD ?_ ?_ | refine fkN ?_ ?_ | refine fkM ?_ ?_) <;> intro h) | ((first | refine OpsL.same ?_ | refine OpsDL.same ?_); first | refine pK h88 rfl rfl ?_ | refine pK h84 rfl rfl ?_) | refine MvQ.stay ?_)
          · refine Exists.intro _ (Exists.intro _ (Exists.intro _ (And.intro rfl ?_)))
            (repeat' first | (refine Owe.same ?_; first | refine Owe.o ?_ | refine Owe.mk ?_ ?_) | (refine Fork.same ?_; (first | refine fkD ?_ ?_ | refine fkN ?_ ?_ | refine fkM ?_ ?_) <;> intro h) | refine MvQ.stay ?_)
            rw [bad (fun ⟨v', h1, h2, _⟩ => by have := only h1; omega)]
            (refine rqK rfl ?_; (repeat' first | exact rfl | (refine qS ?_; constructor)))
          · refine Exists.intro _ (Exists.intro _ (Exists.intro _ (And.intro rfl ?_)))
            (repeat' first | (refine Owe.same ?_; first | refine Owe.o ?_ | refine Owe.mk ?_ ?_) | (refine Fork.same ?_; (first | refine fkD ?_ ?_ | refine fkN ?_ ?_ | refine fkM ?_ ?_) <;> intro h) | refine MvQ.stay ?_)
            rw [bad (fun ⟨v', h1, _, h3, _⟩ => by have := only h1; subst this; exact h (by rw [h3]))]
            (refine rqK rfl ?_; (repeat' first | exact rfl | (refine qS ?_; constructor)))
          · refine Exists.intro _ (Exists.intro _ (Exists.intro _ (And.intro rfl ?_)))
            (repeat' first | (refine Owe.same ?_; first | refine Owe.o ?_ | refine Owe.mk ?_ ?_) | (refine Fork.same ?_; (first | refine fkD ?_ ?_ | refine fkN ?_ ?_ | refine fkM ?_ ?_) <;> intro h) | refine MvQ.stay ?_)
            rw [bad (fun ⟨v', h1, _, _, h4⟩ => by rw [bs_size] at h; omega)]
            (refine rqK rfl ?_; (repeat' first | exact rfl | (refine qS ?_; constructor)))
          · have hz : itoa v = rest := by simpa [bs] using (‹(bs (itoa v)).data.toList = (bs rest).data.toList›)
            have hnt := ntV_ok hd hv (by omega) hz (by rw [bs_size] at h; omega)
            have e : naL d (cutG 32 [] s) = some (acc ++ [v]) := by rw [hcut, cutG_miss hm, List.nil_append, naL, alL_app hdn, hnt]
            rw [e]
            refine Exists.intro _ (Exists.intro _ (Exists.intro _ (And.intro rfl ?_)))
            (repeat' first | (refine Owe.same ?_; first | refine Owe.o ?_ | refine Owe.mk ?_ ?_) | (refine Fork.same ?_; (first | refine fkD ?_ ?_ | refine fkN ?_ ?_ | refine fkM ?_ ?_) <;> intro h) | refine MvQ.stay ?_)
            refine rqF 0 _ rfl rfl rfl ?_; (repeat' first | exact rfl | (refine qS ?_; constructor))
            · exact ⟨v, rfl, rfl⟩
        · obtain ⟨m, h88⟩ := C191e (fun v hv => hok ⟨v, hv⟩) (show rest.length ≤ 1000000 by omega)
          have hbad : naL d (cutG 32 [] s) = none := naL_bad (rr := []) (hcut.trans (by rw [cutG_miss hm, List.nil_append])) (ntV_no hd (w := rest) (fun ⟨v, hv, _⟩ => hok ⟨v, hv⟩))
          refine Ops.yd rfl rfl rfl rfl rfl ?_
          (repeat' first | (refine Owe.same ?_; first | refine Owe.o ?_ | refine Owe.mk ?_ ?_) | (refine Fork.same ?_; (first | refine fkD ?_ ?_ | refine fkN ?_ ?_ | refine fkM ?_ ?_) <;> intro h) | refine MvQ.stay ?_)
          refine And.intro rfl (Exists.intro _ (And.intro rfl ?_))
          (repeat' first | (refine Owe.same ?_; first | refine Owe.o ?_ | refine Owe.mk ?_ ?_) | (refine Fork.same ?_; (first | refine fkD ?_ ?_ | refine fkN ?_ ?_ | refine fkM ?_ ?_) <;> intro h) | ((first | refine OpsL.same ?_ | refine OpsDL.same ?_); first | refine pK h88 rfl rfl ?_) | refine MvQ.stay ?_)
          refine Exists.intro _ (Exists.intro _ (Exists.intro _ (And.intro rfl ?_)))
          (repeat' first | (refine Owe.same ?_; first | refine Owe.o ?_ | refine Owe.mk ?_ ?_) | (refine Fork.same ?_; (first | refine fkD ?_ ?_ | refine fkN ?_ ?_ | refine fkM ?_ ?_) <;> intro h) | refine MvQ.stay ?_)
          rw [hbad]
          (refine rqK rfl ?_; (repeat' first | exact rfl | (refine qS ?_; constructor)))
      · exact absurd (by decide) h
    · have h124 := C249 (l := p ++ 32 :: r) (c := 32)
      rw [hi] at h124
      have hsz : (bs (p ++ 32 :: r)).size = p.length + r.length + 1 := by rw [bs_size]; simp; omega
      have hs1 : (ByteArray.mk #[32]).size = 1 := rfl
      (repeat' first | (refine Owe.same ?_; first | refine Owe.o ?_ | refine Owe.mk ?_ ?_) | (refine Fork.same ?_; (first | refine fkD ?_ ?_ | refine fkN ?_ ?_ | refine fkM ?_ ?_) <;> intro h) | ((first | refine OpsL.same ?_ | refine OpsDL.same ?_); first | refine pK h124 rfl rfl ?_) | refine MvQ.stay ?_)
      · omega
      · rw [show (bs (acc, p ++ 32 :: r).snd).size = _ from hsz]
        have hlp : p.length + r.length ≤ 1000000 := by simp at hlen; omega
        exact ob
      refine OpsL.as 40 (sv p) ?_ ?_
      · refine VEq.str ?_
        rw [cutB_bs]; simp
      have hlp : p.length + r.length ≤ 1000000 := by simp at hlen; omega
      by_cases hok : ∃ v, atoiAll p = .ok v
      · obtain ⟨v, hv⟩ := hok
        have h88 := C191o hv (by omega)
        have h84 := C181 (atoi_i64 hv)
        refine Ops.yd rfl rfl rfl rfl rfl ?_
        (repeat' first | (refine Owe.same ?_; first | refine Owe.o ?_ | refine Owe.mk ?_ ?_) | (refine Fork.same ?_; (first | refine fkD ?_ ?_ | refine fkN ?_ ?_ | refine fkM ?_ ?_) <;> intro h) | refine MvQ.stay ?_)
        refine And.intro rfl (Exists.intro _ (And.intro rfl ?_))
        have bad : (¬ ∃ v, atoiAll p = .ok v ∧ 0 ≤ v ∧ itoa v = p ∧ (p.length : Int) ≤ d) → naL d (cutG 32 [] s) = none := fun hh => naL_bad (hcut.trans (by rw [cutG_hit hm, List.nil_append])) (ntV_no hd hh)
        have only : ∀ {v'}, atoiAll p = .ok v' → v' = v := fun h => by rw [hv] at h; injection h with h; exact h.symm
        (repeat' first | (refine Owe.same ?_; first | refine Owe.o ?_ | refine Owe.mk ?_ ?_) | (refine Fork.same ?_; (first | refine fkD ?_ ?_ | refine fkN ?_ ?_ | refine fkM ?_ ?_) <;> intro h) | ((first | refine OpsL.same ?_ | refine OpsDL.same ?_); first | refine pK h88 rfl rfl ?_ | refine pK h84 rfl rfl ?_) | refine MvQ.stay ?_)
        · refine Exists.intro _ (Exists.intro _ (Exists.intro _ (And.intro rfl ?_)))
          (repeat' first | (refine Owe.same ?_; first | refine Owe.o ?_ | refine Owe.mk ?_ ?_) | (refine Fork.same ?_; (first | refine fkD ?_ ?_ | refine fkN ?_ ?_ | refine fkM ?_ ?_) <;> intro h) | refine MvQ.stay ?_)
          rw [bad (fun ⟨v', h1, h2, _⟩ => by have := only h1; omega)]
          (refine rqK rfl ?_; (repeat' first | exact rfl | (refine qS ?_; constructor)))
        · refine Exists.intro _ (Exists.intro _ (Exists.intro _ (And.intro rfl ?_)))
          (repeat' first | (refine Owe.same ?_; first | refine Owe.o ?_ | refine Owe.mk ?_ ?_) | (refine Fork.same ?_; (first | refine fkD ?_ ?_ | refine fkN ?_ ?_ | refine fkM ?_ ?_) <;> intro h) | refine MvQ.stay ?_)
          rw [bad (fun ⟨v', h1, _, h3, _⟩ => by have := only h1; subst this; exact h (by rw [h3]))]
          (refine rqK rfl ?_; (repeat' first | exact rfl | (refine qS ?_; constructor)))
        · refine Exists.intro _ (Exists.intro _ (Exists.intro _ (And.intro rfl ?_)))
          (repeat' first | (refine Owe.same ?_; first | refine Owe.o ?_ | refine Owe.mk ?_ ?_) | (refine Fork.same ?_; (first | refine fkD ?_ ?_ | refine fkN ?_ ?_ | refine fkM ?_ ?_) <;> intro h) | refine MvQ.stay ?_)
          rw [bad (fun ⟨v', h1, _, _, h4⟩ => by rw [bs_size] at h; omega)]
          (refine rqK rfl ?_; (repeat' first | exact rfl | (refine qS ?_; constructor)))
        · refine Exists.intro _ (Exists.intro _ (Exists.intro _ (And.intro rfl ?_)))
          (repeat' first | (refine Owe.same ?_; first | refine Owe.o ?_ | refine Owe.mk ?_ ?_) | (refine Fork.same ?_; (first | refine fkD ?_ ?_ | refine fkN ?_ ?_ | refine fkM ?_ ?_) <;> intro h) | refine MvQ.stay ?_)
          have hz : itoa v = p := by simpa [bs] using (‹(bs (itoa v)).data.toList = (bs p).data.toList›)
          have hnt := ntV_ok hd hv (by omega) hz (by rw [bs_size] at h; omega)
          refine again (acc ++ [v], r) [8] ⟨by simp at hlen ⊢; omega, dn ++ [p], by rw [hcut, cutG_hit hm]; simp, by rw [naL, alL_app hdn, hnt]⟩ (by simp; omega) ?_
          (refine qis ?_ ?_ <;> (repeat' first | exact rfl | (refine qS ?_; constructor)))
          · simp
          · refine CEq.str ?_
            have e : ((p.length : Int) + ((ByteArray.mk #[32]).size : Nat)).toNat = p.length + 1 := by rw [hs1]; omega
            rw [e]
            simp [bs]
      · obtain ⟨m, h88⟩ := C191e (fun v hv => hok ⟨v, hv⟩) (show p.length ≤ 1000000 by omega)
        have hbad : naL d (cutG 32 [] s) = none := naL_bad (hcut.trans (by rw [cutG_hit hm, List.nil_append])) (ntV_no hd (w := p) (fun ⟨v, hv, _⟩ => hok ⟨v, hv⟩))
        refine Ops.yd rfl rfl rfl rfl rfl ?_
        (repeat' first | (refine Owe.same ?_; first | refine Owe.o ?_ | refine Owe.mk ?_ ?_) | (refine Fork.same ?_; (first | refine fkD ?_ ?_ | refine fkN ?_ ?_ | refine fkM ?_ ?_) <;> intro h) | refine MvQ.stay ?_)
        refine And.intro rfl (Exists.intro _ (And.intro rfl ?_))
        (repeat' first | (refine Owe.same ?_; first | refine Owe.o ?_ | refine Owe.mk ?_ ?_) | (refine Fork.same ?_; (first | refine fkD ?_ ?_ | refine fkN ?_ ?_ | refine fkM ?_ ?_) <;> intro h) | ((first | refine OpsL.same ?_ | refine OpsDL.same ?_); first | refine pK h88 rfl rfl ?_) | refine MvQ.stay ?_)
        refine Exists.intro _ (Exists.intro _ (Exists.intro _ (And.intro rfl ?_)))
        (repeat' first | (refine Owe.same ?_; first | refine Owe.o ?_ | refine Owe.mk ?_ ?_) | (refine Fork.same ?_; (first | refine fkD ?_ ?_ | refine fkN ?_ ?_ | refine fkM ?_ ?_) <;> intro h) | refine MvQ.stay ?_)
        rw [hbad]
        (refine rqK rfl ?_; (repeat' first | exact rfl | (refine qS ?_; constructor)))
theorem numV_head {s : By} {d n : Int} (hd : d ≤ 18) (h : numV s d = some n) : s ≠ [] ∧ (((s.getD 0 0).toNat : Int) = 45 ↔ n < 0) := by
  obtain ⟨h1, h2⟩ := (numV_iff hd).1 h
  subst h1
  refine ⟨itoa_ne n, ?_⟩
  by_cases hn : n < 0
  · rw [itoa_neg hn]
    exact ⟨fun _ => hn, fun _ => rfl⟩
  · rw [itoa_nn (by omega)]
    refine ⟨fun h => ?_, fun h => absurd h hn⟩
    have h45 := head_n45 (u := n.toNat)
    exfalso
    apply h45
    cases hd : decDigits n.toNat with
    | nil => exact absurd hd (dec_ne _)
    | cons x r =>
      rw [hd] at h
      have h : (x.toNat : Int) = 45 := h
      have : x = 45 := UInt8.toNat_inj.1 (by have e : (45 : UInt8).toNat = 45 := rfl; omega)
      rw [this]; rfl
theorem C194y {s : By} {d v : Int} (h : numV s d = some v) (hs : s.length ≤ 1000000 ∧ d ≤ 18) : PFD Tryz.prog 194 [sv s, vi .i64 d] (.tup [vi .i64 v, vbl true]) := by
  have := C194 hs; rw [h] at this; exact this
theorem C194n {s : By} {d : Int} (h : numV s d = none) (hs : s.length ≤ 1000000 ∧ d ≤ 18) : PFD Tryz.prog 194 [sv s, vi .i64 d] (.tup [vi .i64 0, vbl false]) := by
  have := C194 hs; rw [h] at this; exact this
theorem ntV_none {d : Int} {w : By} (h : numV w d = none) : ntV d w = none := by unfold ntV; rw [h]
theorem ntV_neg {d n : Int} {w : By} (h : numV w d = some n) (h0 : n < 0) : ntV d w = none := by unfold ntV; rw [h]; simp; omega
theorem ntV_some {d n : Int} {w : By} (h : numV w d = some n) (h0 : 0 ≤ n) : ntV d w = some n := by unfold ntV; rw [h]; simp [h0]
theorem C114 {W : List By} {d : Int} : ((W.length ≤ 1000000 ∧ d ≤ 18) ∧ ∀ x ∈ W, x.length ≤ 1000000) → PFD Tryz.prog 114 [.c (sts W), vi .i64 d] (.tup [.c (ints ((naL d W).getD [])), vbl (naL d W).isSome]) := fun ⟨⟨hWl, hd⟩, hPx⟩ => by
  have hPx := Hd.mk hPx
  refine pi2 fn114 ?_
  (repeat' first | (refine Owe.same ?_; first | refine Owe.o ?_ | refine Owe.mk ?_ ?_) | (refine Fork.same ?_; (first | refine fkY ?_ | refine fkF ?_ | ((first | refine fkD ?_ ?_ | refine fkN ?_ ?_ | refine fkM ?_ ?_) <;> intro h))) | ((first | refine OpsL.same ?_ | refine OpsDL.same ?_); first | refine oK C194 rfl rfl rfl ?_) | refine MvQ.stay ?_)
  refine Sat.nilS 6 3 1 (fun i => r1 (([] : List Int).getD i 0)) rfl ?_
  refine Sat.lp (fun st : Nat × List Int => ⟨[(0, .c (sts W)), (1, vi .i64 d), (6, .c (.ms 0 st.2.length)), (7, vi .i64 st.1)], [(0, rowv 3 1 r1 0 st.2)], 1⟩)
    (fun st : Nat × List Int => (st.1 ≤ W.length ∧ st.2.length = st.1) ∧ Hd (naL d (W.take st.1) = some st.2)) (fun st : Nat × List Int => W.length - st.1) (0, []) [0] ⟨by simp, ⟨rfl⟩⟩ ?_ ?_
  · (refine qis ?_ ?_ <;> (repeat' first | exact rfl | (refine qS ?_; constructor)))
  · rintro ⟨k, acc⟩ ⟨⟨hk, hal⟩, ha⟩
    simp only at hk hal ha
    refine Fork.dec (fun hlt => ?_) (fun hlt => ?_)
    · have hlt : k < W.length := by have : (k : Int) < W.length := hlt; omega
      have hpl := hPx.h _ (getD_mem [] hlt)
      cases hN : numV (W.getD k []) d with
      | none =>
        have h92 := C194n (s := W.getD (k : Int).toNat []) (d := d) hN ⟨hpl, hd⟩
        rw [show naL d W = none from alL_take hlt (ntV_none hN)]
        (repeat' first | (refine Owe.same ?_; first | refine Owe.o ?_ | refine Owe.mk ?_ ?_) | (refine Fork.same ?_; (first | refine fkY ?_ | refine fkF ?_ | ((first | refine fkD ?_ ?_ | refine fkN ?_ ?_ | refine fkM ?_ ?_) <;> (intro h; try (exfalso; omega))))) | ((first | refine OpsL.same ?_ | refine OpsDL.same ?_); first | refine oK h92 rfl rfl rfl ?_) | refine MvQ.stay ?_)
        (refine rqK rfl ?_; (repeat' first | exact rfl | (refine qS ?_; constructor)))
      | some v =>
        have h92 := C194y (s := W.getD (k : Int).toNat []) (d := d) hN ⟨hpl, hd⟩
        obtain ⟨hne, hsg⟩ := numV_head hd hN
        have hsz : 0 < (bs (W.getD (k : Int).toNat [])).size := by rw [bs_size]; exact List.length_pos_iff.2 hne
        have hsz2 : 0 < (bs (W.getD k [])).size := hsz
        by_cases h0 : v < 0
        · have hc : (((bs (W.getD (k : Int).toNat [])).data.toList.getD (Int.toNat 0) 0).toNat : Int) = 45 := hsg.2 h0
          have hc2 : (((bs (W.getD k [])).data.toList.getD 0 0).toNat : Int) = 45 := hc
          rw [show naL d W = none from alL_take hlt (ntV_neg hN h0)]
          clear hsg hne
          (repeat' first | (refine Owe.same ?_; first | refine Owe.o ?_ | refine Owe.mk ?_ ?_) | (refine Fork.same ?_; (first | refine fkY ?_ | refine fkF ?_ | ((first | refine fkD ?_ ?_ | refine fkN ?_ ?_ | refine fkM ?_ ?_) <;> (intro h; try (exfalso; omega))))) | ((first | refine OpsL.same ?_ | refine OpsDL.same ?_); first | refine oK h92 rfl rfl rfl ?_) | refine MvQ.stay ?_)
          (refine rqK rfl ?_; (repeat' first | exact rfl | (refine qS ?_; constructor)))
        · have hc : ¬ (((bs (W.getD (k : Int).toNat [])).data.toList.getD (Int.toNat 0) 0).toNat : Int) = 45 := fun e => h0 (hsg.1 e)
          have hc2 : ¬ (((bs (W.getD k [])).data.toList.getD 0 0).toNat : Int) = 45 := hc
          have hn1 : naL d (W.take (k + 1)) = some (acc ++ [v]) := by
            rw [tk1 [] hlt, naL, alL_app ha.h, ntV_some hN (by omega)]
          have hn1 := Hd.mk hn1
          clear hsg hne
          (repeat' first | (refine Owe.same ?_; first | refine Owe.o ?_ | refine Owe.mk ?_ ?_) | (refine Fork.same ?_; (first | refine fkY ?_ | refine fkF ?_ | ((first | refine fkD ?_ ?_ | refine fkN ?_ ?_ | refine fkM ?_ ?_) <;> (intro h; try (exfalso; omega))))) | ((first | refine OpsL.same ?_ | refine OpsDL.same ?_); first | refine oK h92 rfl rfl rfl ?_) | refine MvQ.stay ?_)
          refine again (k + 1, acc ++ [v]) [1] ⟨⟨hlt, by simp; omega⟩, hn1⟩ (by show W.length - (k + 1) < W.length - k; omega) ?_
          (refine qis ?_ ?_ <;> (repeat' first | exact rfl | (refine qS ?_; constructor)))
          simp
    · have hk1 : k = W.length := by have : ¬ (k : Int) < W.length := hlt; omega
      have ha := ha.h
      rw [hk1, List.take_length] at ha
      rw [ha]
      (repeat' first | (refine Owe.same ?_; first | refine Owe.o ?_ | refine Owe.mk ?_ ?_) | (refine Fork.same ?_; (first | refine fkD ?_ ?_ | refine fkN ?_ ?_ | refine fkM ?_ ?_) <;> intro h) | refine MvQ.stay ?_)
      refine rqF 0 _ rfl rfl rfl ?_; (repeat' first | exact rfl | (refine qS ?_; constructor))
end Go.Pw
set_option linter.unusedVariables false
set_option maxHeartbeats 2000000
set_option maxRecDepth 100000
namespace Go.Pw
open Go Go.Proofs
def lc27u : LCode :=
  (.seq (.region [⟨some 2, .mv (.const (.string ⟨#[]⟩)), none⟩]) (.seq (.region [⟨some 3, .mv (.const (.slice none 0 0)), none⟩]) (.seq (.seq (.region [⟨some 7, .mv (.tmp 0), none⟩,
    ⟨some 8, .len (.tmp 7), none⟩, ⟨some 9, .mv (.const (.int .i64 0)), none⟩]) (.block 0 (.loop (.seq (.region [⟨some 10, .bin .lss (.tmp 9) (.tmp 8), none⟩]) (.seq (.cond (.tmp
    10) .skip (.exit 0)) (.seq (.block 1 (.seq (.region [⟨some 11, .idx 9 (.tmp 7) (.tmp 9), none⟩, ⟨some 12, .load true 9 (.tmp 11), none⟩, ⟨some 5, .alloc [(.string ⟨#[]⟩), (.int
    .i64 0), (.int .i64 0), (.int .i64 0), (.int .i64 0), (.int .i64 0), (.int .i64 0), (.int .i64 0), (.slice none 0 0)], none⟩, ⟨none, .store 9 (.tmp 5) (.tmp 12), none⟩]) (.seq
    (.region [⟨some 13, .fld 1 (.tmp 5), none⟩, ⟨some 14, .load false 1 (.tmp 13), none⟩, ⟨some 15, .fld 2 (.tmp 5), none⟩, ⟨some 16, .load false 1 (.tmp 15), none⟩, ⟨some 17, .fld
    3 (.tmp 5), none⟩, ⟨some 18, .load false 1 (.tmp 17), none⟩, ⟨some 19, .fld 4 (.tmp 5), none⟩, ⟨some 20, .load false 1 (.tmp 19), none⟩, ⟨some 21, .fld 5 (.tmp 5), none⟩, ⟨some
    22, .load false 1 (.tmp 21), none⟩, ⟨some 23, .fld 6 (.tmp 5), none⟩, ⟨some 24, .fld 0 (.tmp 23), none⟩, ⟨some 25, .load false 1 (.tmp 24), none⟩, ⟨some 26, .fld 6 (.tmp 5),
    none⟩, ⟨some 27, .fld 1 (.tmp 26), none⟩, ⟨some 28, .load false 1 (.tmp 27), none⟩, ⟨some 29, .lit true 3 1 [(.tmp 14), (.tmp 16), (.tmp 18), (.tmp 20), (.tmp 22), (.tmp 25),
    (.tmp 28)], none⟩, ⟨some 30, .fld 8 (.tmp 5), none⟩, ⟨some 31, .load false 1 (.tmp 30), none⟩, ⟨some 32, .append true 3 1 8 (.tmp 29) (.tmp 31), none⟩, ⟨some 6, .mv (.tmp 32),
    none⟩]) (.stop (.regionD [⟨some 33, .mv (.tmp 3), none⟩, ⟨some 34, .fld 0 (.tmp 5), none⟩, ⟨some 35, .load false 1 (.tmp 34), none⟩, ⟨some 36, .catS (.tmp 35) (.const (.string
    ⟨#[32]⟩)), none⟩, ⟨some 37, .mv (.tmp 6), none⟩, ⟨some 38, .call (.func 109) [(.tmp 37)], none⟩, ⟨some 39, .catS (.tmp 36) (.tmp 38), none⟩, ⟨some 40, .lit false 9 1 [(.tmp
    39)], none⟩, ⟨some 41, .append true 9 1 16 (.tmp 33) (.tmp 40), none⟩, ⟨some 3, .mv (.tmp 41), none⟩] [0, 0, 2, 6, 0, 16, 62, 126, 255, 511] [0, 1, 2, 3, 4, 5, 6, 7, 8, 9])))))
    (.region [⟨some 42, .bin .add (.tmp 9) (.const (.int .i64 1)), none⟩, ⟨some 9, .mv (.tmp 42), none⟩]))))))) (.seq (.region [⟨some 43, .mv (.tmp 3), none⟩, ⟨some 44, .call (.func
    93) [(.tmp 43), (.const (.string ⟨#[59]⟩))], none⟩, ⟨some 2, .mv (.tmp 44), none⟩]) .ret))))
theorem low27u : lowF Tryz.prog [29, 32, 41] Tryz.f27 = some (45, lc27u.strip, [.tmp 2]) := by kernel_rfl
theorem fn27u : FnOk Tryz.prog 27 45 lc27u [.tmp 2] := ⟨Tryz.call27, [29, 32, 41], _, Tryz.func27, low27u⟩
end Go.Pw
set_option linter.unusedSimpArgs false
set_option linter.unusedVariables false
set_option maxHeartbeats 1000000
namespace Go.Pw
open Go.RowKit Go.Lib
set_option maxRecDepth 2000
open Go Go.Proofs A1 A2 A3 A4
theorem C31 {l : List Int} : (l.length ≤ 1000 ∧ ∀ n ∈ l, i64P n) → PFD Tryz.prog 31 [.c (ints l)] (sv (wdS l)) := fun h => by
  have h109 := C109 h
  refine pi1 fn31 ?_
  (repeat' first | (refine Owe.same ?_; first | refine Owe.o ?_ | refine Owe.mk ?_ ?_) | (refine Fork.same ?_; (first | refine fkD ?_ ?_ | refine fkN ?_ ?_ | refine fkM ?_ ?_) <;> intro h) | ((first | refine OpsL.same ?_ | refine OpsDL.same ?_); first | refine pK h109 rfl rfl ?_) | refine MvQ.stay ?_)
  (refine rqK rfl ?_; (repeat' first | exact rfl | (refine qS ?_; constructor)))
theorem C41 {l : List Int} : (l.length ≤ 1000 ∧ ∀ n ∈ l, i64P n) → PFD Tryz.prog 41 [.c (ints l)] (sv (wdS l)) := fun h => by
  have h116 := C116 h
  refine pi1 fn41 ?_
  (repeat' first | (refine Owe.same ?_; first | refine Owe.o ?_ | refine Owe.mk ?_ ?_) | (refine Fork.same ?_; (first | refine fkD ?_ ?_ | refine fkN ?_ ?_ | refine fkM ?_ ?_) <;> intro h) | ((first | refine OpsL.same ?_ | refine OpsDL.same ?_); first | refine pK h116 rfl rfl ?_) | refine MvQ.stay ?_)
  (refine rqK rfl ?_; (repeat' first | exact rfl | (refine qS ?_; constructor)))
theorem i64_4 {a b c d : Int} (h1 : i64P a) (h2 : i64P b) (h3 : i64P c) (h4 : i64P d) : ∀ n ∈ [a, b, c, d], i64P n := fun n hn => by
  simp only [List.mem_cons, List.not_mem_nil, or_false] at hn
  rcases hn with rfl | rfl | rfl | rfl <;> assumption
structure St64 (q : St8) : Prop where
  l : q.d.length ≤ 1000
  p : i64P q.p
  t : i64P q.t
  w : i64P q.w
  o : i64P q.o
  d : ∀ n ∈ q.d, i64P n
def stS (t : St8) : By := wdS [t.p, t.t, t.w, t.o] ++ 47 :: wdS t.d
theorem C29 {t : St8} : St64 t → PFD Tryz.prog 29 [stv t] (sv (stS t)) := fun h => by
  have h1 := C109 (l := [t.p, t.t, t.w, t.o]) ⟨by simp, i64_4 h.p h.t h.w h.o⟩
  have h2 := C109 (l := t.d) ⟨h.l, h.d⟩
  have z1 := wd_len (i64_4 h.p h.t h.w h.o)
  have z2 := wd_len h.d
  have hl := h.l
  have e : stS t = wdS [t.p, t.t, t.w, t.o] ++ 47 :: wdS t.d := rfl
  rw [e]
  have hk1 : (bs (wdS [t.p, t.t, t.w, t.o])).size ≤ 100 := by rw [bs_size]; simp at z1; omega
  have hk2 : (bs (wdS t.d)).size ≤ 22000 := by rw [bs_size]; omega
  generalize wdS [t.p, t.t, t.w, t.o] = A at *
  generalize wdS t.d = B at *
  clear z1 z2 e
  have hs1 : (ByteArray.mk #[47]).size = 1 := rfl
  have o1 : (((bs A).size + (ByteArray.mk #[47]).size : Nat) : Int) ≤ 9223372036854775807 := by omega
  have o2 : (((bs (A ++ [47])).size + (bs B).size : Nat) : Int) ≤ 9223372036854775807 := by
    have : (bs (A ++ [47])).size = (bs A).size + 1 := by rw [bs_size, bs_size]; simp
    omega
  refine pi1 fn29 ?_
  (repeat' first | (refine Owe.same ?_; refine Owe.mk ?_ ?_) | (refine Fork.same ?_; (first | refine fkD ?_ ?_ | refine fkN ?_ ?_ | refine fkM ?_ ?_) <;> intro h) | ((first | refine OpsL.same ?_ | refine OpsDL.same ?_); first | refine oK h2 rfl rfl rfl ?_) | refine MvQ.stay ?_)
  · trivial
  ((first | refine OpsL.same ?_ | refine OpsDL.same ?_); first | refine pK h1 rfl rfl ?_)
  (repeat' first | (refine Owe.same ?_; refine Owe.mk ?_ ?_) | (refine Fork.same ?_; (first | refine fkD ?_ ?_ | refine fkN ?_ ?_ | refine fkM ?_ ?_) <;> intro h) | ((first | refine OpsL.same ?_ | refine OpsDL.same ?_); first | refine oK h2 rfl rfl rfl ?_) | refine MvQ.stay ?_)
  · exact o1
  · exact o2
  · (refine rqK rfl ?_; (repeat' first | exact rfl | (refine qS ?_; constructor)))
    refine VEq.str ?_
    simp [bs]
theorem C40 {t : St8} : St64 t → PFD Tryz.prog 40 [stv t] (sv (stS t)) := fun h => by
  have h1 := C116 (l := [t.p, t.t, t.w, t.o]) ⟨by simp, i64_4 h.p h.t h.w h.o⟩
  have h2 := C116 (l := t.d) ⟨h.l, h.d⟩
  have z1 := wd_len (i64_4 h.p h.t h.w h.o)
  have z2 := wd_len h.d
  have hl := h.l
  have e : stS t = wdS [t.p, t.t, t.w, t.o] ++ 47 :: wdS t.d := rfl
  rw [e]
  have hk1 : (bs (wdS [t.p, t.t, t.w, t.o])).size ≤ 100 := by rw [bs_size]; simp at z1; omega
  have hk2 : (bs (wdS t.d)).size ≤ 22000 := by rw [bs_size]; omega
  generalize wdS [t.p, t.t, t.w, t.o] = A at *
  generalize wdS t.d = B at *
  clear z1 z2 e
  have hs1 : (ByteArray.mk #[47]).size = 1 := rfl
  have o1 : (((bs A).size + (ByteArray.mk #[47]).size : Nat) : Int) ≤ 9223372036854775807 := by omega
  have o2 : (((bs (A ++ [47])).size + (bs B).size : Nat) : Int) ≤ 9223372036854775807 := by
    have : (bs (A ++ [47])).size = (bs A).size + 1 := by rw [bs_size, bs_size]; simp
    omega
  refine pi1 fn40 ?_
  (repeat' first | (refine Owe.same ?_; refine Owe.mk ?_ ?_) | (refine Fork.same ?_; (first | refine fkD ?_ ?_ | refine fkN ?_ ?_ | refine fkM ?_ ?_) <;> intro h) | ((first | refine OpsL.same ?_ | refine OpsDL.same ?_); first | refine oK h2 rfl rfl rfl ?_) | refine MvQ.stay ?_)
  · trivial
  ((first | refine OpsL.same ?_ | refine OpsDL.same ?_); first | refine pK h1 rfl rfl ?_)
  (repeat' first | (refine Owe.same ?_; refine Owe.mk ?_ ?_) | (refine Fork.same ?_; (first | refine fkD ?_ ?_ | refine fkN ?_ ?_ | refine fkM ?_ ?_) <;> intro h) | ((first | refine OpsL.same ?_ | refine OpsDL.same ?_); first | refine oK h2 rfl rfl rfl ?_) | refine MvQ.stay ?_)
  · exact o1
  · exact o2
  · (refine rqK rfl ?_; (repeat' first | exact rfl | (refine qS ?_; constructor)))
    refine VEq.str ?_
    simp [bs]
def tkN (t : Tk) : List Int := [t.p, t.d, t.w, t.o, t.v, t.lo, t.hi] ++ t.a
abbrev tkB (t : Tk) : By := t.n.data.toList
def tkS (t : Tk) : By := tkB t ++ 32 :: wdS (tkN t)
def tsS (l : List Tk) : By := jnG 59 (l.map tkS)
structure Tk64 (q : Tk) : Prop where
  n : q.n.size ≤ 100
  a : q.a.length ≤ 100
  i : ∀ n ∈ tkN q, i64P n
theorem tkN_len (t : Tk) : (tkN t).length = 7 + t.a.length := by rw [tkN, List.length_append]; rfl
theorem tkN_eq (t : Tk) {i : Nat} (hi : i < 7 + t.a.length) : (if i < 7 then [[dI t.p], [dI t.d], [dI t.w], [dI t.o], [dI t.v], [dI t.lo], [dI t.hi]].getD i [] else r1 (t.a.getD (i - 7) 0)) = r1 ((tkN t).getD i 0) := by
  by_cases h : i < 7
  · rw [if_pos h]
    match i, h with
    | 0, _ => rfl
    | 1, _ => rfl
    | 2, _ => rfl
    | 3, _ => rfl
    | 4, _ => rfl
    | 5, _ => rfl
    | 6, _ => rfl
  · rw [if_neg h, tkN, List.getD_eq_getElem?_getD (l := _ ++ t.a), List.getElem?_append_right (by show 7 ≤ i; omega), List.getD_eq_getElem?_getD]; rfl
theorem tkS_len {t : Tk} (h : Tk64 t) : (tkS t).length ≤ 3000 := by
  have h1 := wd_len h.i
  have h2 := tkN_len t
  have h3 : (tkB t).length = t.n.size := Array.length_toList
  have := h.n
  have := h.a
  rw [tkS, List.length_append, List.length_cons]; omega
theorem ts_len {l : List Tk} (h : ∀ t ∈ l, Tk64 t) : (tsS l).length ≤ l.length * 3001 := by
  have := jn_len (c := 59) (M := 3000) (l := l.map tkS) (fun x hx => by
    obtain ⟨t, ht, rfl⟩ := List.mem_map.1 hx
    exact tkS_len (h t ht))
  rw [List.length_map] at this; exact this
theorem C27 {l : List Tk} : (l.length ≤ 100 ∧ ∀ t ∈ l, Tk64 t) → PFD Tryz.prog 27 [.c (tks l)] (sv (tsS l)) := fun ⟨hl, h⟩ => by
  have hj := ts_len h
  have h := Hd.mk h
  have h93 := C93 (l := l.map tkS) (c := 59) ⟨by rw [List.length_map]; omega, by show (tsS l).length ≤ _; omega⟩
  refine pi1 fn27u ?_
  (repeat' first | (refine Owe.same ?_; first | refine Owe.o ?_ | refine Owe.mk ?_ ?_) | (refine Fork.same ?_; (first | refine fkD ?_ ?_ | refine fkN ?_ ?_ | refine fkM ?_ ?_) <;> intro h) | refine MvQ.stay ?_)
  refine Sat.nilS 3 9 1 (fun i => rS (([] : List By).getD i [])) rfl ?_
  refine Sat.lp (fun k : Nat => ⟨[(7, .c (tks l)), (8, vi .i64 l.length), (9, vi .i64 k), (3, .c (.ms 0 ((l.take k).map tkS).length))], [(0, rowv 9 1 rS [] ((l.take k).map tkS))], 1⟩)
    (fun k => k ≤ l.length) (fun k => l.length - k) 0 [0] (Nat.zero_le _) ?_ ?_
  · (refine qis ?_ ?_ <;> (repeat' first | exact rfl | (refine qS ?_; constructor)))
  · intro k hk
    refine Fork.dec (fun hlt => ?_) (fun hlt => ?_)
    · have hlt : k < l.length := by have : (k : Int) < l.length := hlt; omega
      have hi := h.h _ (getD_mem tk0 hlt)
      have hal := hi.a
      have hnl := tkN_len (l.getD k tk0)
      have hT : ∀ t ∈ [l.getD k tk0], Tk64 t := fun t ht => by rw [List.mem_singleton] at ht; rw [ht]; exact hi
      have h109 := C109 (l := tkN (l.getD k tk0)) ⟨by omega, hi.i⟩
      have hz := wd_len hi.i
      have hz1 : (bs (wdS (tkN (l.getD k tk0)))).size ≤ 3000 := by rw [bs_size]; omega
      have hn : (l.getD k tk0).n.size ≤ 100 := hi.n
      have hs1 : (ByteArray.mk #[32]).size = 1 := rfl
      have htS : tkS (l.getD k tk0) = (l.getD k tk0).n.data.toList ++ 32 :: wdS (tkN (l.getD k tk0)) := rfl
      have ht : (l.take (k + 1)).map tkS = (l.take k).map tkS ++ [tkS (l.getD k tk0)] := by
        rw [tk1 tk0 hlt, List.map_append]; rfl
      have hk1 : ((l.take k).map tkS).length ≤ 100 := by rw [List.length_map, List.length_take]; omega
      (repeat' first | (refine Owe.same ?_; first | refine Owe.o ?_ | refine Owe.mk ?_ ?_) | (refine Fork.same ?_; (first | refine fkD ?_ ?_ | refine fkN ?_ ?_ | refine fkM ?_ ?_) <;> (intro h; try (exfalso; omega))) | refine MvQ.stay ?_)
      refine SatL.frz 6 3 rfl rfl (Nat.le_refl _) ?_
      refine SatL.as 6 (.c (ints (tkN (l.getD k tk0)))) ?_ ?_
      · exact VEq.c _ _ (CEq.sl hnl.symm (fun i hi => tkN_eq _ hi))
      refine SatL.go ?_
      generalize hW : wdS (tkN (l.getD k tk0)) = W at *
      generalize hL : (l.take k).map tkS = L at *
      clear hi hT hj
      have o1 : (((l.getD k tk0).n.size + (ByteArray.mk #[32]).size : Nat) : Int) ≤ 9223372036854775807 := by omega
      have o2 : (((bs ((l.getD k tk0).n.data.toList ++ [32])).size + (bs W).size : Nat) : Int) ≤ 9223372036854775807 := by
        have h1 : (bs ((l.getD k tk0).n.data.toList ++ [32])).size = (l.getD k tk0).n.size + 1 := by
          rw [bs_size, List.length_append]
          show (l.getD k tk0).n.data.toList.length + 1 = (l.getD k tk0).n.data.size + 1
          rw [Array.length_toList]
        omega
      have o3 : ((L.length : Int) + 1) ≤ 1000 := by omega
      (repeat' first | (refine Owe.same ?_; refine Owe.mk ?_ ?_) | (refine Fork.same ?_; (first | refine fkD ?_ ?_ | refine fkN ?_ ?_ | refine fkM ?_ ?_) <;> intro h) | ((first | refine OpsL.same ?_ | refine OpsDL.same ?_); first | refine oK h109 rfl rfl rfl ?_) | refine MvQ.stay ?_)
      · exact o1
      · refine ⟨⟨o2, trivial⟩, ?_⟩
        clear o1 o2
        refine ⟨rfl, ?_⟩
        show (L.length + 1) * 16 ≤ 140737488355328
        omega
      · clear o1 o2; exact ⟨by omega, by omega⟩
      · refine again (k + 1) [11] hlt (by omega) ?_
        (refine qis ?_ ?_ <;> (repeat' first | exact rfl | (refine qS ?_; constructor)))
        · rw [ht, List.length_append]; rfl
        · refine ⟨tkS (l.getD k tk0), ?_, ht⟩
          rw [htS]
          refine congrArg (fun z => [D.v (.string z)]) ?_
          simp [bs]
    · have hk1 : k = l.length := by have : ¬ (k : Int) < l.length := hlt; omega
      have hw : (l.take k).map tkS = l.map tkS := by rw [List.take_of_length_le (by omega)]
      rw [hw]
      (repeat' first | (refine Owe.same ?_; first | refine Owe.o ?_ | refine Owe.mk ?_ ?_) | (refine Fork.same ?_; (first | refine fkD ?_ ?_ | refine fkN ?_ ?_ | refine fkM ?_ ?_) <;> intro h))
      refine MvQ.frz 3 _ rfl rfl (Nat.le_refl _) ?_
      (repeat' first | (refine Owe.same ?_; first | refine Owe.o ?_ | refine Owe.mk ?_ ?_) | (refine Fork.same ?_; (first | refine fkY ?_ | refine fkF ?_ | ((first | refine fkD ?_ ?_ | refine fkN ?_ ?_ | refine fkM ?_ ?_) <;> intro h))) | ((first | refine OpsL.same ?_ | refine OpsDL.same ?_); first | refine oK h93 rfl rfl rfl ?_) | refine MvQ.stay ?_)
      (refine rqK rfl ?_; (repeat' first | exact rfl | (refine qS ?_; constructor)))
end Go.Pw
set_option linter.unusedVariables false
set_option linter.unusedSimpArgs false
namespace Go.Pw
open Go Go.RowKit
theorem arg_str {v : V} (h : Arg false [.str] v) : ∃ l : By, v = sv l := by
  obtain ⟨d, rfl, h1⟩ := arg_c h
  rw [OkD] at h1
  obtain ⟨s, rfl, _⟩ := h1
  exact ⟨s.data.toList, by rw [sv, svD, bs_eta]⟩
theorem i64_P {n : Int} (h : i64 n) : i64P n := by
  simp only [i64, IntKind.has, IntKind.min, IntKind.max, IntKind.signed, IntKind.bits, Bool.and_eq_true, decide_eq_true_eq] at h
  simp at h
  exact ⟨by omega, by omega⟩
theorem intsI6 {d : D} (h : OkD (.sl [.int .i64]) d) : ∃ l : List Int, DI d (intsD l) ∧ l.length ≤ maxLen ∧ ∀ n ∈ l, i64P n := by
  obtain ⟨l, h1, h2, h3⟩ := okD_listI (r := r1) (Q := fun n => i64P n) (0 : Int) (fun ds hd => by
    obtain ⟨a, rfl, ha⟩ := row1 hd
    exact ⟨a, DIs.refl _, i64_P ha⟩) h
  exact ⟨l, h1, h2, h3⟩
theorem intI6 {d : D} (h : OkD (.int .i64) d) : ∃ n : Int, DI d (dI n) ∧ i64P n := by
  obtain ⟨n, rfl, hn⟩ := okD_int h
  exact ⟨n, DI.refl _, i64_P hn⟩
theorem rowTk6 {ds : List D} (h : OkDs tkSh ds) : ∃ t : Tk, DIs ds (tkr t) ∧ t.n.size ≤ maxLen ∧ t.a.length ≤ maxLen ∧ ∀ n ∈ tkN t, i64P n := by
  obtain ⟨d1, e1, rfl, a1, k1⟩ := okDs_cons h
  obtain ⟨d2, e2, rfl, a2, k2⟩ := okDs_cons k1
  obtain ⟨d3, e3, rfl, a3, k3⟩ := okDs_cons k2
  obtain ⟨d4, e4, rfl, a4, k4⟩ := okDs_cons k3
  obtain ⟨d5, e5, rfl, a5, k5⟩ := okDs_cons k4
  obtain ⟨d6, e6, rfl, a6, k6⟩ := okDs_cons k5
  obtain ⟨d7, e7, rfl, a7, k7⟩ := okDs_cons k6
  obtain ⟨d8, e8, rfl, a8, k8⟩ := okDs_cons k7
  obtain ⟨d9, e9, rfl, a9, k9⟩ := okDs_cons k8
  rw [okDs_nil k9]
  obtain ⟨s, rfl, hs⟩ := okD_str a1
  obtain ⟨n2, b2, c2⟩ := intI6 a2
  obtain ⟨n3, b3, c3⟩ := intI6 a3
  obtain ⟨n4, b4, c4⟩ := intI6 a4
  obtain ⟨n5, b5, c5⟩ := intI6 a5
  obtain ⟨n6, b6, c6⟩ := intI6 a6
  obtain ⟨n7, b7, c7⟩ := intI6 a7
  obtain ⟨n8, b8, c8⟩ := intI6 a8
  obtain ⟨l, b9, hl, c9⟩ := intsI6 a9
  refine ⟨⟨s, n2, n3, n4, n5, n6, n7, n8, l⟩, .cons (DI.refl _) (.cons b2 (.cons b3 (.cons b4 (.cons b5 (.cons b6 (.cons b7 (.cons b8 (.cons b9 .nil)))))))), hs, hl, fun n hn => ?_⟩
  rw [tkN, List.mem_append] at hn
  rcases hn with hn | hn
  · simp only [List.mem_cons, List.not_mem_nil, or_false] at hn
    rcases hn with rfl | rfl | rfl | rfl | rfl | rfl | rfl <;> assumption
  · exact c9 n hn
theorem arg_tasks6 {v : V} (h : Arg false [.sl tkSh] v) : ∃ l : List Tk, RI v (.c (tks l)) ∧ ∀ t ∈ l, ∀ n ∈ tkN t, i64P n := by
  obtain ⟨d, rfl, h1⟩ := arg_c h
  obtain ⟨l, h2, h3, h4⟩ := okD_listI tk0 (fun ds => rowTk6) h1
  exact ⟨l, RI.cI h2, fun t ht => (h4 t ht).2.2⟩
theorem arg_state6 {v : V} (h : Arg true stSh v) : ∃ t : St8, RI v (stv t) ∧ i64P t.p ∧ i64P t.t ∧ i64P t.w ∧ i64P t.o ∧ ∀ n ∈ t.d, i64P n := by
  obtain ⟨ds, rfl, h1⟩ := arg_agg h
  obtain ⟨d1, e1, rfl, a1, k1⟩ := okDs_cons h1
  obtain ⟨d2, e2, rfl, a2, k2⟩ := okDs_cons k1
  obtain ⟨d3, e3, rfl, a3, k3⟩ := okDs_cons k2
  obtain ⟨d4, e4, rfl, a4, k4⟩ := okDs_cons k3
  obtain ⟨d5, e5, rfl, a5, k5⟩ := okDs_cons k4
  rw [okDs_nil k5]
  obtain ⟨n1, b1, c1⟩ := intI6 a1
  obtain ⟨n2, b2, c2⟩ := intI6 a2
  obtain ⟨n3, b3, c3⟩ := intI6 a3
  obtain ⟨n4, b4, c4⟩ := intI6 a4
  obtain ⟨l, b5, q5, c5⟩ := intsI6 a5
  exact ⟨⟨n1, n2, n3, n4, l⟩, RI.aggI (es := stD ⟨n1, n2, n3, n4, l⟩) (.cons b1 (.cons b2 (.cons b3 (.cons b4 (.cons b5 .nil))))), c1, c2, c3, c4, c5⟩
end Go.Pw
set_option linter.unusedSimpArgs false
set_option linter.unusedVariables false
set_option maxRecDepth 20000
set_option maxHeartbeats 1000000
namespace Go.Pw
open Go Go.RowKit Go.Lib Go.Sort
open Go.Proofs
theorem RepL.four {Γ : Cx} {w : World} {a b c d : V} {us : Array Value} (h : RepL Γ w [a, b, c, d] us) : ∃ u v x y, us = #[u, v, x, y] ∧ RepV Γ w a u ∧ RepV Γ w b v ∧ RepV Γ w c x ∧ RepV Γ w d y := by
  obtain ⟨us⟩ := us
  have h1 := h.1
  match us, h1 with
  | [u, v, x, y], _ => exact ⟨u, v, x, y, rfl, h.2 0 _ _ rfl rfl, h.2 1 _ _ rfl rfl, h.2 2 _ _ rfl rfl, h.2 3 _ _ rfl rfl⟩
theorem split_bs {s : By} {c : UInt8} : splitB ⟨#[c]⟩ 0 (countB (bs s) ⟨#[c]⟩) (bs s) = (cutG c [] s).map bs := by
  have h := splitB_data ⟨#[c]⟩ 0 (countB (bs s) ⟨#[c]⟩) (bs s)
  have hc : countB (bs s) ⟨#[c]⟩ = s.count c := count_one c s
  have h2 : splitK [c] 0 (countB (bs s) ⟨#[c]⟩) s = cutG c [] s := split_cut _ s hc.symm
  have h3 : (splitB ⟨#[c]⟩ 0 (countB (bs s) ⟨#[c]⟩) (bs s)).map (·.data.toList) = cutG c [] s := h.trans h2
  rw [← h3, List.map_map]
  exact (List.map_id _).symm.trans (List.map_congr_left fun x _ => by simp [bs])
theorem split_sz {s : By} {c : UInt8} : countB (bs s) ⟨#[c]⟩ + 1 = (cutG c [] s).length := by
  have h := splitB_all ⟨#[c]⟩ (Nat.le_refl 1) 0 _ (bs s) rfl
  rw [split_bs, List.length_map] at h
  exact h.symm
theorem C185 {s : By} {c : UInt8} : s.length ≤ 1000000 → PFD Tryz.prog 185 [sv s, .c (.d (.v (.string ⟨#[c]⟩))), vi .i64 0, vi .i64 (-1)] (.c (sts (cutG c [] s))) := fun hs => by
  refine pfd_below Tryz.call185 fun Γ w us hst hr => ?_
  obtain ⟨u, v, x, y, rfl, hu, hv, hx, hy⟩ := hr.four
  cases hu.vv; cases hv.vv; cases hx.vv; cases hy.vv
  have hz : (bs s).size = s.length := bs_size s
  have hle := countB_le ⟨#[c]⟩ (Nat.le_refl 1) (bs s).size (bs s) (Nat.le_refl _)
  have h := Any.strings_genSplit_core sh_lays221 (by kernel_rfl) (bs s) ⟨#[c]⟩ 0 (-1) (countB (bs s) ⟨#[c]⟩ + 1) w (by omega) (Nat.le_refl 1) (Nat.zero_le _)
    (fun x cs hx => by
      refine (sh_strings_Index_one x c (w.alloc (.cells cs 9))).mono ?_
      rintro e w' ⟨rfl, rfl⟩
      exact ⟨by rw [← index_one], rfl⟩)
    (by
      refine (sh_strings_Count_one (bs s) c w).mono ?_
      rintro e w' ⟨rfl, rfl⟩
      refine ⟨?_, rfl⟩
      show _ = Ending.returned (Value.int .i64 ((Lib.count (bs s).data.toList [c] : Nat) : Int))
      rw [count_one]; rfl) (by decide) (by decide) (by rw [if_pos (by decide)]; omega)
  rw [Nat.add_sub_cancel, split_bs, List.length_map, split_sz] at h
  have e2 : Lib.cellsOf ((cutG c [] s).map bs) (cutG c [] s).length = (((cutG c [] s).map bs).map Value.string).toArray := by
    have := Lib.cellsOf_full ((cutG c [] s).map bs)
    rw [List.length_map] at this; exact this
  rw [e2] at h
  refine Calls.mono h ?_
  generalize cutG c [] s = L
  rintro e w' ⟨rfl, rfl⟩
  refine ⟨_, rfl, (Below.refl _ _).alloc (Nat.le_refl _) _, .c _ _ ?_⟩
  refine RepD.sl 1 L.length _ ⟨w.heap.size, 0, none⟩ L.length (fun i j => .string (bs (L.getD i []))) (Nat.le_refl _) (.inr ⟨Nat.le_refl _, by simp⟩) (fun i hi => rfl) ?_ ?_
  · intro i j d hi hj
    have hj0 : j = 0 := by
      have : j < 1 := (List.getElem?_eq_some_iff.1 hj).1
      omega
    subst hj0
    have e : (Addr.mk w.heap.size 0 none).add (i * 1 + 0) = ⟨w.heap.size, i, none⟩ := by
      unfold Addr.add
      split
      · rename_i h0; simp at h0; rw [h0]
      · simp
    rw [e]
    simp only [World.cell?]
    have e3 : (w.alloc (.cells ((L.map bs).map Value.string).toArray 9)).heap[w.heap.size]? = some (.cells ((L.map bs).map Value.string).toArray 9) := by show (w.heap.push _)[w.heap.size]? = _; exact Array.getElem?_push_size ..
    have e4 : (w.alloc (.cells ((L.map bs).map Value.string).toArray (sh_lays221_ren.t 9))).heap[w.heap.size]? = some (.cells ((L.map bs).map Value.string).toArray 9) := e3
    rw [e4]
    show ((L.map bs).map Value.string).toArray[i]? = _
    rw [List.getElem?_toArray, List.getElem?_map, List.getElem?_map, List.getElem?_eq_getElem hi, List.getD_eq_getElem?_getD, List.getElem?_eq_getElem hi]
    rfl
  · intro i j d hi hj
    have hj0 : j = 0 := by
      have : j < 1 := (List.getElem?_eq_some_iff.1 hj).1
      omega
    subst hj0
    injection hj with hj
    rw [← hj]
    exact .v _ rfl
end Go.Pw
set_option linter.unusedSimpArgs false
set_option linter.unusedVariables false
set_option maxHeartbeats 1000000
namespace Go.Pw
open Go.RowKit Go.Lib
set_option maxRecDepth 2000
open Go Go.Proofs A1 A2 A3 A4
theorem C94 {s : By} {c : UInt8} : s.length ≤ 1000000 → PFD Tryz.prog 94 [sv s, .c (.d (.v (.string ⟨#[c]⟩)))] (.c (sts (cutG c [] s))) := fun hs => by
  have h := C185 (c := c) hs
  refine pi1 fn94 ?_
  (repeat' first | (refine Owe.same ?_; first | refine Owe.o ?_ | refine Owe.mk ?_ ?_) | (refine Fork.same ?_; (first | refine fkD ?_ ?_ | refine fkN ?_ ?_ | refine fkM ?_ ?_) <;> intro h) | ((first | refine OpsL.same ?_ | refine OpsDL.same ?_); first | refine pK h rfl rfl ?_) | refine MvQ.stay ?_)
  (refine rqK rfl ?_; (repeat' first | exact rfl | (refine qS ?_; constructor)))
def ppE (s : By) : List Int × Int := if 60000 < s.length then ([], 8) else if s = [] then ([], 0) else match naL 2 (cutG 32 [] s) with
  | none => ([], 7)
  | some v => (v, 0)
theorem C112y {s : By} {d : Int} {l : List Int} (h : naL d (cutG 32 [] s) = some l) (hs : s.length ≤ 1000000) (hd : d ≤ 18) : PFD Tryz.prog 112 [sv s, vi .i64 d] (.tup [.c (ints l), vbl true]) := by
  have := C112 (s := s) ⟨hs, hd⟩; rw [h] at this; exact this
theorem C112n {s : By} {d : Int} (h : naL d (cutG 32 [] s) = none) (hs : s.length ≤ 1000000) (hd : d ≤ 18) : PFD Tryz.prog 112 [sv s, vi .i64 d] (.tup [.c (ints []), vbl false]) := by
  have := C112 (s := s) ⟨hs, hd⟩; rw [h] at this; exact this
theorem hPc {s : By} {c : UInt8} (hs : s.length ≤ 900000) : (cutG c [] s).length ≤ 1000000 ∧ ∀ x ∈ cutG c [] s, x.length ≤ 1000000 :=
  ⟨by have := cut_count (c := c) (l := s) (acc := []); omega, fun x hx => by have := cut_len x hx; simp at this; omega⟩
theorem C114y {W : List By} {d : Int} {l : List Int} (h : naL d W = some l) (hW : W.length ≤ 1000000 ∧ ∀ x ∈ W, x.length ≤ 1000000) (hd : d ≤ 18) : PFD Tryz.prog 114 [.c (sts W), vi .i64 d] (.tup [.c (ints l), vbl true]) := by
  have := C114 ⟨⟨hW.1, hd⟩, hW.2⟩; rw [h] at this; exact this
theorem C114n {W : List By} {d : Int} (h : naL d W = none) (hW : W.length ≤ 1000000 ∧ ∀ x ∈ W, x.length ≤ 1000000) (hd : d ≤ 18) : PFD Tryz.prog 114 [.c (sts W), vi .i64 d] (.tup [.c (ints []), vbl false]) := by
  have := C114 ⟨⟨hW.1, hd⟩, hW.2⟩; rw [h] at this; exact this
theorem C35 {s : By} : s.length ≤ 100000 → PFD Tryz.prog 35 [sv s] (.tup [.c (ints (ppE s).1), vi .i64 (ppE s).2]) := fun hs => by
  have hz : (bs s).size = s.length := bs_size s
  by_cases hb : 60000 < s.length
  · rw [show ppE s = ([], 8) by unfold ppE; rw [if_pos hb]]
    refine pi2 fn35 ?_
    (repeat' first | (refine Owe.same ?_; first | refine Owe.o ?_ | refine Owe.mk ?_ ?_) | (refine Fork.same ?_; (first | refine fkD ?_ ?_ | refine fkN ?_ ?_ | refine fkM ?_ ?_) <;> (intro h; try (exfalso; omega))) | refine MvQ.stay ?_)
    (refine rqK rfl ?_; (repeat' first | exact rfl | (refine qS ?_; constructor)))
  by_cases h0 : s = []
  · rw [show ppE s = ([], 0) by unfold ppE; rw [if_neg hb, if_pos h0]]
    subst h0
    refine pi2 fn35 ?_
    (repeat' first | (refine Owe.same ?_; first | refine Owe.o ?_ | refine Owe.mk ?_ ?_) | (refine Fork.same ?_; (first | refine fkD ?_ ?_ | refine fkN ?_ ?_ | refine fkM ?_ ?_) <;> (intro h; try (exfalso; omega))) | refine MvQ.stay ?_)
    · (refine rqK rfl ?_; (repeat' first | exact rfl | (refine qS ?_; constructor)))
    · rename_i h; exact absurd rfl h
  have hne : ¬ (bs s).data.toList = (ByteArray.mk #[]).data.toList := fun h => h0 (by simpa [bs] using h)
  cases hv : naL 2 (cutG 32 [] s) with
  | none =>
    rw [show ppE s = ([], 7) by unfold ppE; rw [if_neg hb, if_neg h0, hv]]
    have h51 := C112n hv (by omega) (by decide)
    refine pi2 fn35 ?_
    (repeat' first | (refine Owe.same ?_; first | refine Owe.o ?_ | refine Owe.mk ?_ ?_) | (refine Fork.same ?_; (first | refine fkY ?_ | refine fkF ?_ | ((first | refine fkD ?_ ?_ | refine fkN ?_ ?_ | refine fkM ?_ ?_) <;> (intro h; try (exfalso; omega))))) | ((first | refine OpsL.same ?_ | refine OpsDL.same ?_); first | refine oK h51 rfl rfl rfl ?_) | refine MvQ.stay ?_)
    (refine rqK rfl ?_; (repeat' first | exact rfl | (refine qS ?_; constructor)))
  | some v =>
    rw [show ppE s = (v, 0) by unfold ppE; rw [if_neg hb, if_neg h0, hv]]
    have h51 := C112y hv (by omega) (by decide)
    refine pi2 fn35 ?_
    (repeat' first | (refine Owe.same ?_; first | refine Owe.o ?_ | refine Owe.mk ?_ ?_) | (refine Fork.same ?_; (first | refine fkY ?_ | refine fkF ?_ | ((first | refine fkD ?_ ?_ | refine fkN ?_ ?_ | refine fkM ?_ ?_) <;> (intro h; try (exfalso; omega))))) | ((first | refine OpsL.same ?_ | refine OpsDL.same ?_); first | refine oK h51 rfl rfl rfl ?_) | refine MvQ.stay ?_)
    (refine rqK rfl ?_; (repeat' first | exact rfl | (refine qS ?_; constructor)))
theorem C38 {s : By} : s.length ≤ 100000 → PFD Tryz.prog 38 [sv s] (.tup [.c (ints (ppE s).1), vi .i64 (ppE s).2]) := fun hs => by
  have hz : (bs s).size = s.length := bs_size s
  by_cases hb : 60000 < s.length
  · rw [show ppE s = ([], 8) by unfold ppE; rw [if_pos hb]]
    refine pi2 fn38 ?_
    (repeat' first | (refine Owe.same ?_; first | refine Owe.o ?_ | refine Owe.mk ?_ ?_) | (refine Fork.same ?_; (first | refine fkD ?_ ?_ | refine fkN ?_ ?_ | refine fkM ?_ ?_) <;> (intro h; try (exfalso; omega))) | refine MvQ.stay ?_)
    (refine rqK rfl ?_; (repeat' first | exact rfl | (refine qS ?_; constructor)))
  by_cases h0 : s = []
  · rw [show ppE s = ([], 0) by unfold ppE; rw [if_neg hb, if_pos h0]]
    subst h0
    refine pi2 fn38 ?_
    (repeat' first | (refine Owe.same ?_; first | refine Owe.o ?_ | refine Owe.mk ?_ ?_) | (refine Fork.same ?_; (first | refine fkD ?_ ?_ | refine fkN ?_ ?_ | refine fkM ?_ ?_) <;> (intro h; try (exfalso; omega))) | refine MvQ.stay ?_)
    · (refine rqK rfl ?_; (repeat' first | exact rfl | (refine qS ?_; constructor)))
    · rename_i h; exact absurd rfl h
  have hne : ¬ (bs s).data.toList = (ByteArray.mk #[]).data.toList := fun h => h0 (by simpa [bs] using h)
  have c101 := C101 (s := s) (c := 32) (by omega)
  have hW := hPc (s := s) (c := 32) (by omega)
  cases hv : naL 2 (cutG 32 [] s) with
  | none =>
    rw [show ppE s = ([], 7) by unfold ppE; rw [if_neg hb, if_neg h0, hv]]
    have h51 := C114n hv hW (by decide)
    generalize cutG 32 [] s = W at *
    refine pi2 fn38 ?_
    (repeat' first | (refine Owe.same ?_; first | refine Owe.o ?_ | refine Owe.mk ?_ ?_) | (refine Fork.same ?_; (first | refine fkY ?_ | refine fkF ?_ | ((first | refine fkD ?_ ?_ | refine fkN ?_ ?_ | refine fkM ?_ ?_) <;> (intro h; try (exfalso; omega))))) | ((first | refine OpsL.same ?_ | refine OpsDL.same ?_); first | refine oK c101 rfl rfl rfl ?_ | refine oK h51 rfl rfl rfl ?_) | refine MvQ.stay ?_)
    (refine rqK rfl ?_; (repeat' first | exact rfl | (refine qS ?_; constructor)))
  | some v =>
    rw [show ppE s = (v, 0) by unfold ppE; rw [if_neg hb, if_neg h0, hv]]
    have h51 := C114y hv hW (by decide)
    generalize cutG 32 [] s = W at *
    refine pi2 fn38 ?_
    (repeat' first | (refine Owe.same ?_; first | refine Owe.o ?_ | refine Owe.mk ?_ ?_) | (refine Fork.same ?_; (first | refine fkY ?_ | refine fkF ?_ | ((first | refine fkD ?_ ?_ | refine fkN ?_ ?_ | refine fkM ?_ ?_) <;> (intro h; try (exfalso; omega))))) | ((first | refine OpsL.same ?_ | refine OpsDL.same ?_); first | refine oK c101 rfl rfl rfl ?_ | refine oK h51 rfl rfl rfl ?_) | refine MvQ.stay ?_)
    (refine rqK rfl ?_; (repeat' first | exact rfl | (refine qS ?_; constructor)))
abbrev stZ : St8 := ⟨0, 0, 0, 0, []⟩
def sdV (q : List Int) (b : By) : St8 × Int := match q with
  | [p, t, w, o] => if b = [] then (⟨p, t, w, o, []⟩, 0) else match naL 9 (cutG 32 [] b) with
    | some d => (⟨p, t, w, o, d⟩, 0)
    | none => (stZ, 7)
  | _ => (stZ, 7)
def sdE (s : By) : St8 × Int := if 60000 < s.length then (stZ, 8) else match cutG 47 [] s with
  | [a, b] => match naL 9 (cutG 32 [] a) with
    | some q => sdV q b
    | none => (stZ, 7)
  | _ => (stZ, 7)
theorem sdE_two {s a b : By} (hs : ¬ 60000 < s.length) (h : cutG 47 [] s = [a, b]) : sdE s = match naL 9 (cutG 32 [] a) with
    | some q => sdV q b
    | none => (stZ, 7) := by unfold sdE; rw [if_neg hs, h]
theorem sdE_not {s : By} (hs : ¬ 60000 < s.length) (h : (cutG 47 [] s).length ≠ 2) : sdE s = (stZ, 7) := by
  unfold sdE; rw [if_neg hs]
  split
  · rename_i h1; rw [h1] at h; exact absurd rfl h
  · rfl
theorem sdV_not {q : List Int} {b : By} (h : q.length ≠ 4) : sdV q b = (stZ, 7) := by
  unfold sdV
  split
  · exact absurd rfl h
  · rfl
theorem C34 {s : By} : s.length ≤ 100000 → PFD Tryz.prog 34 [sv s] (.tup [stv (sdE s).1, vi .i64 (sdE s).2]) := fun hs => by
  have hz : (bs s).size = s.length := bs_size s
  by_cases hb : 60000 < s.length
  · rw [show sdE s = (stZ, 8) by unfold sdE; rw [if_pos hb]]
    refine pi2 fn34 ?_
    (repeat' first | (refine Owe.same ?_; first | refine Owe.o ?_ | refine Owe.mk ?_ ?_) | (refine Fork.same ?_; (first | refine fkD ?_ ?_ | refine fkN ?_ ?_ | refine fkM ?_ ?_) <;> (intro h; try (exfalso; omega))) | refine MvQ.stay ?_)
    (refine rqK rfl ?_; (repeat' first | exact rfl | (refine qS ?_; constructor)))
  have c94 := C94 (s := s) (c := 47) (by omega)
  have hW := hPc (s := s) (c := 47) (by omega)
  by_cases h2 : (cutG 47 [] s).length = 2
  · obtain ⟨a, b, hab⟩ : ∃ a b, cutG 47 [] s = [a, b] := by
      match h : cutG 47 [] s, h2 with
      | [a, b], _ => exact ⟨a, b, rfl⟩
    rw [sdE_two hb hab]
    rw [hab] at c94 hW
    have ha : a.length ≤ 1000000 := hW.2 a (by simp)
    have hbl : b.length ≤ 1000000 := hW.2 b (by simp)
    have e2 : [a, b].length = 2 := rfl
    clear hW h2 hab
    cases hv : naL 9 (cutG 32 [] a) with
    | none =>
      have h51 := C112n hv ha (by decide)
      refine pi2 fn34 ?_
      (repeat' first | (refine Owe.same ?_; first | refine Owe.o ?_ | refine Owe.mk ?_ ?_) | (refine Fork.same ?_; (first | refine fkY ?_ | refine fkF ?_ | ((first | refine fkD ?_ ?_ | refine fkN ?_ ?_ | refine fkM ?_ ?_) <;> (intro h; try (exfalso; omega))))) | ((first | refine OpsL.same ?_ | refine OpsDL.same ?_); first | refine oK c94 rfl rfl rfl ?_ | refine oK h51 rfl rfl rfl ?_) | refine MvQ.stay ?_)
      (refine rqK rfl ?_; (repeat' first | exact rfl | (refine qS ?_; constructor)))
    | some q =>
      have h51 := C112y hv ha (by decide)
      clear hv
      show PFD Tryz.prog 34 [sv s] (.tup [stv (sdV q b).1, vi .i64 (sdV q b).2])
      by_cases hq : q.length = 4
      · obtain ⟨p, t, w, o, rfl⟩ : ∃ p t w o, q = [p, t, w, o] := by
          match q, hq with
          | [p, t, w, o], _ => exact ⟨p, t, w, o, rfl⟩
        have e4 : [p, t, w, o].length = 4 := rfl
        by_cases h0 : b = []
        · subst h0
          rw [show sdV [p, t, w, o] [] = (⟨p, t, w, o, []⟩, 0) from rfl]
          have h9 : (bs ([] : By)).data.toList = (ByteArray.mk #[]).data.toList := rfl
          refine pi2 fn34 ?_
          (repeat' first | (refine Owe.same ?_; first | refine Owe.o ?_ | refine Owe.mk ?_ ?_) | (refine Fork.same ?_; (first | refine fkY ?_ | refine fkF ?_ | ((first | refine fkD ?_ ?_ | refine fkN ?_ ?_ | refine fkM ?_ ?_) <;> (intro h; try (exfalso; omega))))) | ((first | refine OpsL.same ?_ | refine OpsDL.same ?_); first | refine oK c94 rfl rfl rfl ?_ | refine oK h51 rfl rfl rfl ?_) | refine MvQ.stay ?_)
          (refine rqK rfl ?_; (repeat' first | exact rfl | (refine qS ?_; constructor)))
        · have hne : ¬ (bs ([a, b].getD (Int.toNat 1) [])).data.toList = (ByteArray.mk #[]).data.toList := fun h => h0 (by simpa [bs] using h)
          cases hv : naL 9 (cutG 32 [] b) with
          | none =>
            have h52 := C112n hv hbl (by decide)
            rw [show sdV [p, t, w, o] b = (stZ, 7) by unfold sdV; simp only; rw [if_neg h0, hv]]
            refine pi2 fn34 ?_
            (repeat' first | (refine Owe.same ?_; first | refine Owe.o ?_ | refine Owe.mk ?_ ?_) | (refine Fork.same ?_; (first | refine fkY ?_ | refine fkF ?_ | ((first | refine fkD ?_ ?_ | refine fkN ?_ ?_ | refine fkM ?_ ?_) <;> (intro h; try (exfalso; omega))))) | ((first | refine OpsL.same ?_ | refine OpsDL.same ?_); first | refine oK c94 rfl rfl rfl ?_ | refine oK h51 rfl rfl rfl ?_ | refine oK h52 rfl rfl rfl ?_) | refine MvQ.stay ?_)
            (refine rqK rfl ?_; (repeat' first | exact rfl | (refine qS ?_; constructor)))
          | some d =>
            have h52 := C112y hv hbl (by decide)
            rw [show sdV [p, t, w, o] b = (⟨p, t, w, o, d⟩, 0) by unfold sdV; simp only; rw [if_neg h0, hv]]
            refine pi2 fn34 ?_
            (repeat' first | (refine Owe.same ?_; first | refine Owe.o ?_ | refine Owe.mk ?_ ?_) | (refine Fork.same ?_; (first | refine fkY ?_ | refine fkF ?_ | ((first | refine fkD ?_ ?_ | refine fkN ?_ ?_ | refine fkM ?_ ?_) <;> (intro h; try (exfalso; omega))))) | ((first | refine OpsL.same ?_ | refine OpsDL.same ?_); first | refine oK c94 rfl rfl rfl ?_ | refine oK h51 rfl rfl rfl ?_ | refine oK h52 rfl rfl rfl ?_) | refine MvQ.stay ?_)
            (refine rqK rfl ?_; (repeat' first | exact rfl | (refine qS ?_; constructor)))
      · rw [sdV_not hq]
        refine pi2 fn34 ?_
        (repeat' first | (refine Owe.same ?_; first | refine Owe.o ?_ | refine Owe.mk ?_ ?_) | (refine Fork.same ?_; (first | refine fkY ?_ | refine fkF ?_ | ((first | refine fkD ?_ ?_ | refine fkN ?_ ?_ | refine fkM ?_ ?_) <;> (intro h; try (exfalso; omega))))) | ((first | refine OpsL.same ?_ | refine OpsDL.same ?_); first | refine oK c94 rfl rfl rfl ?_ | refine oK h51 rfl rfl rfl ?_) | refine MvQ.stay ?_)
        (refine rqK rfl ?_; (repeat' first | exact rfl | (refine qS ?_; constructor)))
  · rw [sdE_not hb h2]
    generalize cutG 47 [] s = W at *
    refine pi2 fn34 ?_
    (repeat' first | (refine Owe.same ?_; first | refine Owe.o ?_ | refine Owe.mk ?_ ?_) | (refine Fork.same ?_; (first | refine fkY ?_ | refine fkF ?_ | ((first | refine fkD ?_ ?_ | refine fkN ?_ ?_ | refine fkM ?_ ?_) <;> (intro h; try (exfalso; omega))))) | ((first | refine OpsL.same ?_ | refine OpsDL.same ?_); first | refine oK c94 rfl rfl rfl ?_) | refine MvQ.stay ?_)
    (refine rqK rfl ?_; (repeat' first | exact rfl | (refine qS ?_; constructor)))
theorem C37 {s : By} : s.length ≤ 100000 → PFD Tryz.prog 37 [sv s] (.tup [stv (sdE s).1, vi .i64 (sdE s).2]) := fun hs => by
  have hz : (bs s).size = s.length := bs_size s
  by_cases hb : 60000 < s.length
  · rw [show sdE s = (stZ, 8) by unfold sdE; rw [if_pos hb]]
    refine pi2 fn37 ?_
    (repeat' first | (refine Owe.same ?_; first | refine Owe.o ?_ | refine Owe.mk ?_ ?_) | (refine Fork.same ?_; (first | refine fkD ?_ ?_ | refine fkN ?_ ?_ | refine fkM ?_ ?_) <;> (intro h; try (exfalso; omega))) | refine MvQ.stay ?_)
    (refine rqK rfl ?_; (repeat' first | exact rfl | (refine qS ?_; constructor)))
  have c94 := C101 (s := s) (c := 47) (by omega)
  have hW := hPc (s := s) (c := 47) (by omega)
  by_cases h2 : (cutG 47 [] s).length = 2
  · obtain ⟨a, b, hab⟩ : ∃ a b, cutG 47 [] s = [a, b] := by
      match h : cutG 47 [] s, h2 with
      | [a, b], _ => exact ⟨a, b, rfl⟩
    rw [sdE_two hb hab]
    have hla : ∀ x ∈ cutG 47 [] s, x.length ≤ 100000 := fun x hx => by have := cut_len x hx; simp at this; omega
    rw [hab] at c94 hW hla
    have ha : a.length ≤ 1000000 := hW.2 a (by simp)
    have hbl : b.length ≤ 1000000 := hW.2 b (by simp)
    have e2 : [a, b].length = 2 := rfl
    have ca := C101 (s := a) (c := 32) ha
    have hWa := hPc (s := a) (c := 32) (Nat.le_trans (hla a (by simp)) (by decide))
    have cb := C101 (s := b) (c := 32) hbl
    have hWb := hPc (s := b) (c := 32) (Nat.le_trans (hla b (by simp)) (by decide))
    clear hW h2 hab hla
    cases hv : naL 9 (cutG 32 [] a) with
    | none =>
      have h51 := C114n hv hWa (by decide)
      refine pi2 fn37 ?_
      (repeat' first | (refine Owe.same ?_; first | refine Owe.o ?_ | refine Owe.mk ?_ ?_) | (refine Fork.same ?_; (first | refine fkY ?_ | refine fkF ?_ | ((first | refine fkD ?_ ?_ | refine fkN ?_ ?_ | refine fkM ?_ ?_) <;> (intro h; try (exfalso; omega))))) | ((first | refine OpsL.same ?_ | refine OpsDL.same ?_); first | refine oK c94 rfl rfl rfl ?_ | refine oK ca rfl rfl rfl ?_ | refine oK h51 rfl rfl rfl ?_) | refine MvQ.stay ?_)
      (refine rqK rfl ?_; (repeat' first | exact rfl | (refine qS ?_; constructor)))
    | some q =>
      have h51 := C114y hv hWa (by decide)
      clear hv
      show PFD Tryz.prog 37 [sv s] (.tup [stv (sdV q b).1, vi .i64 (sdV q b).2])
      by_cases hq : q.length = 4
      · obtain ⟨p, t, w, o, rfl⟩ : ∃ p t w o, q = [p, t, w, o] := by
          match q, hq with
          | [p, t, w, o], _ => exact ⟨p, t, w, o, rfl⟩
        have e4 : [p, t, w, o].length = 4 := rfl
        by_cases h0 : b = []
        · subst h0
          rw [show sdV [p, t, w, o] [] = (⟨p, t, w, o, []⟩, 0) from rfl]
          have h9 : (bs ([] : By)).data.toList = (ByteArray.mk #[]).data.toList := rfl
          refine pi2 fn37 ?_
          (repeat' first | (refine Owe.same ?_; first | refine Owe.o ?_ | refine Owe.mk ?_ ?_) | (refine Fork.same ?_; (first | refine fkY ?_ | refine fkF ?_ | ((first | refine fkD ?_ ?_ | refine fkN ?_ ?_ | refine fkM ?_ ?_) <;> (intro h; try (exfalso; omega))))) | ((first | refine OpsL.same ?_ | refine OpsDL.same ?_); first | refine oK c94 rfl rfl rfl ?_ | refine oK ca rfl rfl rfl ?_ | refine oK h51 rfl rfl rfl ?_) | refine MvQ.stay ?_)
          (refine rqK rfl ?_; (repeat' first | exact rfl | (refine qS ?_; constructor)))
        · have hne : ¬ (bs ([a, b].getD (Int.toNat 1) [])).data.toList = (ByteArray.mk #[]).data.toList := fun h => h0 (by simpa [bs] using h)
          cases hv : naL 9 (cutG 32 [] b) with
          | none =>
            have h52 := C114n hv hWb (by decide)
            rw [show sdV [p, t, w, o] b = (stZ, 7) by unfold sdV; simp only; rw [if_neg h0, hv]]
            refine pi2 fn37 ?_
            (repeat' first | (refine Owe.same ?_; first | refine Owe.o ?_ | refine Owe.mk ?_ ?_) | (refine Fork.same ?_; (first | refine fkY ?_ | refine fkF ?_ | ((first | refine fkD ?_ ?_ | refine fkN ?_ ?_ | refine fkM ?_ ?_) <;> (intro h; try (exfalso; omega))))) | ((first | refine OpsL.same ?_ | refine OpsDL.same ?_); first | refine oK c94 rfl rfl rfl ?_ | refine oK ca rfl rfl rfl ?_ | refine oK h51 rfl rfl rfl ?_ | refine oK cb rfl rfl rfl ?_ | refine oK h52 rfl rfl rfl ?_) | refine MvQ.stay ?_)
            (refine rqK rfl ?_; (repeat' first | exact rfl | (refine qS ?_; constructor)))
          | some d =>
            have h52 := C114y hv hWb (by decide)
            rw [show sdV [p, t, w, o] b = (⟨p, t, w, o, d⟩, 0) by unfold sdV; simp only; rw [if_neg h0, hv]]
            refine pi2 fn37 ?_
            (repeat' first | (refine Owe.same ?_; first | refine Owe.o ?_ | refine Owe.mk ?_ ?_) | (refine Fork.same ?_; (first | refine fkY ?_ | refine fkF ?_ | ((first | refine fkD ?_ ?_ | refine fkN ?_ ?_ | refine fkM ?_ ?_) <;> (intro h; try (exfalso; omega))))) | ((first | refine OpsL.same ?_ | refine OpsDL.same ?_); first | refine oK c94 rfl rfl rfl ?_ | refine oK ca rfl rfl rfl ?_ | refine oK h51 rfl rfl rfl ?_ | refine oK cb rfl rfl rfl ?_ | refine oK h52 rfl rfl rfl ?_) | refine MvQ.stay ?_)
            (refine rqK rfl ?_; (repeat' first | exact rfl | (refine qS ?_; constructor)))
      · rw [sdV_not hq]
        refine pi2 fn37 ?_
        (repeat' first | (refine Owe.same ?_; first | refine Owe.o ?_ | refine Owe.mk ?_ ?_) | (refine Fork.same ?_; (first | refine fkY ?_ | refine fkF ?_ | ((first | refine fkD ?_ ?_ | refine fkN ?_ ?_ | refine fkM ?_ ?_) <;> (intro h; try (exfalso; omega))))) | ((first | refine OpsL.same ?_ | refine OpsDL.same ?_); first | refine oK c94 rfl rfl rfl ?_ | refine oK ca rfl rfl rfl ?_ | refine oK h51 rfl rfl rfl ?_) | refine MvQ.stay ?_)
        (refine rqK rfl ?_; (repeat' first | exact rfl | (refine qS ?_; constructor)))
  · rw [sdE_not hb h2]
    generalize cutG 47 [] s = W at *
    refine pi2 fn37 ?_
    (repeat' first | (refine Owe.same ?_; first | refine Owe.o ?_ | refine Owe.mk ?_ ?_) | (refine Fork.same ?_; (first | refine fkY ?_ | refine fkF ?_ | ((first | refine fkD ?_ ?_ | refine fkN ?_ ?_ | refine fkM ?_ ?_) <;> (intro h; try (exfalso; omega))))) | ((first | refine OpsL.same ?_ | refine OpsDL.same ?_); first | refine oK c94 rfl rfl rfl ?_) | refine MvQ.stay ?_)
    (refine rqK rfl ?_; (repeat' first | exact rfl | (refine qS ?_; constructor)))
end Go.Pw
set_option linter.unusedVariables false
set_option maxHeartbeats 2000000
set_option maxRecDepth 100000
namespace Go.Pw
open Go Go.Proofs
def lc39u : LCode :=
  (.seq (.region [⟨some 2, .mv (.const (.string ⟨#[]⟩)), none⟩]) (.seq (.region [⟨some 3, .mv (.const (.string ⟨#[]⟩)), none⟩]) (.seq (.seq (.region [⟨some 4, .mv (.const (.int .i64
    0)), none⟩]) (.block 0 (.loop (.seq (.seq (.region [⟨some 8, .mv (.tmp 4), none⟩, ⟨some 9, .mv (.tmp 0), none⟩, ⟨some 10, .len (.tmp 9), none⟩, ⟨some 11, .bin .lss (.tmp 8)
    (.tmp 10), none⟩]) (.cond (.tmp 11) .skip (.exit 0))) (.seq (.block 1 (.seq (.seq (.region [⟨some 14, .mv (.tmp 4), none⟩, ⟨some 15, .bin .gtr (.tmp 14) (.const (.int .i64 0)),
    none⟩]) (.cond (.tmp 15) (.region [⟨some 16, .mv (.tmp 3), none⟩, ⟨some 17, .catS (.tmp 16) (.const (.string ⟨#[59]⟩)), none⟩, ⟨some 3, .mv (.tmp 17), none⟩]) .skip)) (.seq
    (.region [⟨some 18, .mv (.tmp 0), none⟩, ⟨some 19, .mv (.tmp 4), none⟩, ⟨some 20, .idx 9 (.tmp 18) (.tmp 19), none⟩, ⟨some 21, .load true 9 (.tmp 20), none⟩, ⟨some 5, .alloc
    [(.string ⟨#[]⟩), (.int .i64 0), (.int .i64 0), (.int .i64 0), (.int .i64 0), (.int .i64 0), (.int .i64 0), (.int .i64 0), (.slice none 0 0)], none⟩, ⟨none, .store 9 (.tmp 5)
    (.tmp 21), none⟩]) (.seq (.region [⟨some 22, .mv (.tmp 3), none⟩, ⟨some 23, .fld 0 (.tmp 5), none⟩, ⟨some 24, .load false 1 (.tmp 23), none⟩, ⟨some 25, .catS (.tmp 22) (.tmp
    24), none⟩, ⟨some 3, .mv (.tmp 25), none⟩]) (.seq (.region [⟨some 26, .fld 1 (.tmp 5), none⟩, ⟨some 27, .load false 1 (.tmp 26), none⟩, ⟨some 28, .fld 2 (.tmp 5), none⟩, ⟨some
    29, .load false 1 (.tmp 28), none⟩, ⟨some 30, .fld 3 (.tmp 5), none⟩, ⟨some 31, .load false 1 (.tmp 30), none⟩, ⟨some 32, .fld 4 (.tmp 5), none⟩, ⟨some 33, .load false 1 (.tmp
    32), none⟩, ⟨some 34, .fld 5 (.tmp 5), none⟩, ⟨some 35, .load false 1 (.tmp 34), none⟩, ⟨some 36, .fld 6 (.tmp 5), none⟩, ⟨some 37, .fld 0 (.tmp 36), none⟩, ⟨some 38, .load
    false 1 (.tmp 37), none⟩, ⟨some 39, .fld 6 (.tmp 5), none⟩, ⟨some 40, .fld 1 (.tmp 39), none⟩, ⟨some 41, .load false 1 (.tmp 40), none⟩, ⟨some 42, .lit true 3 1 [(.tmp 27),
    (.tmp 29), (.tmp 31), (.tmp 33), (.tmp 35), (.tmp 38), (.tmp 41)], none⟩, ⟨some 6, .mv (.tmp 42), none⟩]) (.seq (.region [⟨some 43, .mv (.tmp 6), none⟩, ⟨some 44, .fld 8 (.tmp
    5), none⟩, ⟨some 45, .load false 1 (.tmp 44), none⟩, ⟨some 46, .append true 3 1 8 (.tmp 43) (.tmp 45), none⟩, ⟨some 6, .mv (.tmp 46), none⟩]) (.seq (.region [⟨some 7, .mv
    (.const (.int .i64 0)), none⟩]) (.block 2 (.loop (.seq (.seq (.region [⟨some 47, .mv (.tmp 7), none⟩, ⟨some 48, .mv (.tmp 6), none⟩, ⟨some 49, .len (.tmp 48), none⟩, ⟨some 50,
    .bin .lss (.tmp 47) (.tmp 49), none⟩]) (.cond (.tmp 50) .skip (.exit 2))) (.seq (.block 3 (.region [⟨some 53, .mv (.tmp 3), none⟩, ⟨some 54, .catS (.tmp 53) (.const (.string
    ⟨#[32]⟩)), none⟩, ⟨some 55, .mv (.tmp 6), none⟩, ⟨some 56, .mv (.tmp 7), none⟩, ⟨some 57, .idx 1 (.tmp 55) (.tmp 56), none⟩, ⟨some 58, .load false 1 (.tmp 57), none⟩, ⟨some 59,
    .call (.func 115) [(.tmp 58)], none⟩, ⟨some 60, .catS (.tmp 54) (.tmp 59), none⟩, ⟨some 3, .mv (.tmp 60), none⟩])) (.region [⟨some 51, .mv (.tmp 7), none⟩, ⟨some 52, .bin .add
    (.tmp 51) (.const (.int .i64 1)), none⟩, ⟨some 7, .mv (.tmp 52), none⟩])))))))))))) (.region [⟨some 12, .mv (.tmp 4), none⟩, ⟨some 13, .bin .add (.tmp 12) (.const (.int .i64
    1)), none⟩, ⟨some 4, .mv (.tmp 13), none⟩])))))) (.seq (.region [⟨some 61, .mv (.tmp 3), none⟩, ⟨some 2, .mv (.tmp 61), none⟩]) .ret))))
theorem low39u : lowF Tryz.prog [42, 46] Tryz.f39 = some (62, lc39u.strip, [.tmp 2]) := by kernel_rfl
theorem fn39u : FnOk Tryz.prog 39 62 lc39u [.tmp 2] := ⟨Tryz.call39, [42, 46], _, Tryz.func39, low39u⟩
end Go.Pw
set_option linter.unusedSimpArgs false
set_option linter.unusedVariables false
set_option maxHeartbeats 1000000
namespace Go.Pw
open Go.RowKit Go.Lib
set_option maxRecDepth 2000
open Go Go.Proofs A1 A2 A3 A4
def bnS : List Int → By
  | [] => []
  | n :: r => (32 :: itoa n) ++ bnS r
theorem bnS_wd : ∀ {l : List Int}, l ≠ [] → bnS l = 32 :: wdS l
  | [], h => absurd rfl h
  | [n], _ => by simp [bnS, wdS, jnG]
  | n :: m :: r, _ => by
    rw [bnS, bnS_wd (l := m :: r) (by simp)]
    have e : wdS (n :: m :: r) = itoa n ++ 32 :: wdS (m :: r) := jn_cons (by simp)
    rw [e]; rfl
theorem bnS_app : ∀ (l : List Int) (n : Int), bnS (l ++ [n]) = bnS l ++ 32 :: itoa n
  | [], n => by simp [bnS]
  | m :: l, n => by rw [List.cons_append, bnS, bnS_app l n, bnS, List.append_assoc]
theorem bnS_len : ∀ {l : List Int}, (∀ n ∈ l, i64P n) → (bnS l).length ≤ l.length * 22
  | [], _ => by simp [bnS]
  | n :: l, h => by
    have h1 := bnS_len (l := l) (fun m hm => h m (List.mem_cons_of_mem _ hm))
    have h2 := h n (by simp)
    have h3 := itoa_length_le n h2.1 h2.2
    rw [bnS, List.length_append, List.length_cons, List.length_cons]; omega
theorem ts_step {l : List Tk} {k : Nat} (h : k < l.length) : tsS (l.take (k + 1)) = if k = 0 then tkS (l.getD k tk0) else tsS (l.take k) ++ 59 :: tkS (l.getD k tk0) := by
  rw [tsS, tk1 tk0 h, List.map_append]
  by_cases h0 : k = 0
  · subst h0; rw [if_pos rfl]; rfl
  · rw [if_neg h0]
    refine jn_app (l := (l.take k).map tkS) (fun e => ?_)
    have := congrArg List.length e
    rw [List.length_map, List.length_take, List.length_nil] at this; omega
theorem C39 {l : List Tk} : (l.length ≤ 100 ∧ ∀ t ∈ l, Tk64 t) → PFD Tryz.prog 39 [.c (tks l)] (sv (tsS l)) := fun ⟨hl, h⟩ => by
  refine pi1 fn39u ?_
  (repeat' first | (refine Owe.same ?_; first | refine Owe.o ?_ | refine Owe.mk ?_ ?_) | (refine Fork.same ?_; (first | refine fkD ?_ ?_ | refine fkN ?_ ?_ | refine fkM ?_ ?_) <;> intro h) | refine MvQ.stay ?_)
  refine Sat.lp (fun k : Nat => ⟨[(0, .c (tks l)), (3, sv (tsS (l.take k))), (4, vi .i64 (k : Int))], [], 0⟩)
    (fun k => k ≤ l.length) (fun k => l.length - k) 0 [] (Nat.zero_le _) ?_ ?_
  · (refine qis ?_ ?_ <;> (repeat' first | exact rfl | (refine qS ?_; constructor)))
  · intro k hk
    refine Fork.dec (fun hlt => ?_) (fun hlt => ?_)
    · have hlt : k < l.length := by have : (k : Int) < l.length := hlt; omega
      have hi := h _ (getD_mem tk0 hlt)
      have hal := hi.a
      have hnl := tkN_len (l.getD k tk0)
      have hnn := hi.n
      have hbl : (tkB (l.getD k tk0)).length = (l.getD k tk0).n.size := Array.length_toList
      have hstep := ts_step hlt
      have hzl := ts_len (l := l.take k) (fun t ht => h t (List.mem_of_mem_take ht))
      rw [List.length_take] at hzl
      have hz : (bs (tsS (l.take k))).size ≤ 301000 := by rw [bs_size]; omega
      have hs2 : (ByteArray.mk #[59]).size = 1 := rfl
      have hzt : (tsS (l.take k)).length ≤ 301000 := by omega
      clear hzl
      by_cases hk0 : k = 0
      · rw [if_pos hk0] at hstep
        have hT0 : tsS (l.take k) = [] := by rw [hk0]; rfl
        rw [hT0] at hz hzt ⊢
        have o1 : (((bs ([] : By)).size + (l.getD k tk0).n.size : Nat) : Int) ≤ 9223372036854775807 := by omega
        (repeat' first | (refine Owe.same ?_; refine Owe.mk ?_ ?_) | (refine Fork.same ?_; (first | refine fkD ?_ ?_ | refine fkN ?_ ?_ | refine fkM ?_ ?_) <;> (intro h; try (exfalso; omega))) | ((first | refine OpsL.same ?_ | refine OpsDL.same ?_); first | refine oK C115 rfl rfl rfl ?_) | refine MvQ.stay ?_)
        · exact ⟨by omega, by omega⟩
        · exact o1
        · trivial
        · exact ⟨rfl, by show (7 + (l.getD k tk0).a.length) * 8 ≤ 140737488355328; omega⟩
        skip
        obtain ⟨P, hP⟩ : ∃ P : By, P = ([] : By) := ⟨_, rfl⟩
        have hPl : P.length ≤ 301001 := by rw [hP]; simp
        refine SatL.frz 6 2 rfl rfl (Nat.le_refl _) ?_
        refine SatL.as 6 (.c (ints (tkN (l.getD k tk0)))) ?_ ?_
        · exact VEq.c _ _ (CEq.sl hnl.symm (fun i hi => tkN_eq _ hi))
        refine SatL.as 3 (sv (P ++ tkB (l.getD k tk0))) ?_ ?_
        · refine VEq.str ?_
          rw [hP]; simp [bs]
        refine Sat.lp (fun j : Nat => ⟨[(0, .c (tks l)), (3, sv (P ++ tkB (l.getD k tk0) ++ bnS ((tkN (l.getD k tk0)).take j))), (4, vi .i64 (k : Int)), (6, .c (ints (tkN (l.getD k tk0)))), (7, vi .i64 (j : Int))], [], 0⟩)
          (fun j => j ≤ (tkN (l.getD k tk0)).length) (fun j => (tkN (l.getD k tk0)).length - j) 0 [] (Nat.zero_le _) ?_ ?_
        · (refine qis ?_ ?_ <;> (repeat' first | exact rfl | (refine qS ?_; constructor)))
          refine VEq.str ?_
          simp [bnS]
        · intro j hj
          refine Fork.dec (fun hlt2 => ?_) (fun hlt2 => ?_)
          · have hlt2 : j < (tkN (l.getD k tk0)).length := by have : (j : Int) < (tkN (l.getD k tk0)).length := hlt2; omega
            have hij : i64P ((tkN (l.getD k tk0)).getD (j : Int).toNat 0) := hi.i _ (getD_mem 0 hlt2)
            have h115 := C115 hij
            have hsp := bnS_len (l := (tkN (l.getD k tk0)).take j) (fun n hn => hi.i n (List.mem_of_mem_take hn))
            rw [List.length_take] at hsp
            have hst : bnS ((tkN (l.getD k tk0)).take (j + 1)) = bnS ((tkN (l.getD k tk0)).take j) ++ 32 :: itoa ((tkN (l.getD k tk0)).getD j 0) := by rw [tk1 0 hlt2, bnS_app]
            have hz1 : (bs (P ++ tkB (l.getD k tk0) ++ bnS ((tkN (l.getD k tk0)).take j))).size ≤ 400000 := by
              rw [bs_size, List.length_append, List.length_append]; omega
            have hz2 : (bs (itoa ((tkN (l.getD k tk0)).getD (j : Int).toNat 0))).size ≤ 21 := by rw [bs_size]; exact itoa_length_le _ hij.1 hij.2
            have hs1 : (ByteArray.mk #[32]).size = 1 := rfl
            generalize hU : P ++ tkB (l.getD k tk0) ++ bnS ((tkN (l.getD k tk0)).take j) = U at *
            have ho1 : (((bs U).size + (ByteArray.mk #[32]).size : Nat) : Int) ≤ 9223372036854775807 := by omega
            have hUl : (bs (U ++ [32])).size = (bs U).size + 1 := by rw [bs_size, bs_size]; simp
            generalize hI : itoa ((tkN (l.getD k tk0)).getD (j : Int).toNat 0) = I at h115 hz2
            have ho3 : (((bs (U ++ [32])).size + (bs I).size : Nat) : Int) ≤ 9223372036854775807 := by omega
            have hI : itoa ((tkN (l.getD k tk0)).getD j 0) = I := hI
            rw [hI] at hst
            have hst := Hd.mk hst
            have hU := Hd.mk hU
            have hjl : (j : Int) + 1 ≤ 1000 := by omega
            clear hij hi hI hsp hz1 hz2 hUl hs1
            (repeat' first | (refine Owe.same ?_; refine Owe.mk ?_ ?_) | (refine Fork.same ?_; (first | refine fkD ?_ ?_ | refine fkN ?_ ?_ | refine fkM ?_ ?_) <;> intro h) | ((first | refine OpsL.same ?_ | refine OpsDL.same ?_); first | refine oK h115 rfl rfl rfl ?_) | refine MvQ.stay ?_)
            · have hjj : (0 : Int) ≤ (j : Int) ∧ (j : Int) < ((tkN (l.getD k tk0)).length : Int) := by clear ho1 ho3; exact ⟨by omega, by omega⟩
              exact ⟨ho1, hjj⟩
            · exact ho3
            · clear ho1 ho3; exact ⟨by omega, by omega⟩
            · refine again (j + 1) [] hlt2 (by omega) ?_
              (refine qis ?_ ?_ <;> (repeat' first | exact rfl | (refine qS ?_; constructor)))
              refine VEq.str ?_
              rw [hst.h, ← List.append_assoc, hU.h]
              simp [bs]
          · have hj1 : j = (tkN (l.getD k tk0)).length := by have : ¬ (j : Int) < (tkN (l.getD k tk0)).length := hlt2; omega
            have hkl : (k : Int) + 1 ≤ 1000 := by omega
            have hstep := Hd.mk hstep
            clear hi
            (repeat' first | (refine Owe.same ?_; refine Owe.mk ?_ ?_) | (refine Fork.same ?_; (first | refine fkD ?_ ?_ | refine fkN ?_ ?_ | refine fkM ?_ ?_) <;> intro h) | ((first | refine OpsL.same ?_ | refine OpsDL.same ?_); first | refine oK C115 rfl rfl rfl ?_) | refine MvQ.stay ?_)
            · clear hj1 hnl; exact ⟨by omega, by omega⟩
            · refine again (k + 1) [] hlt (by omega) ?_
              (refine qis ?_ ?_ <;> (repeat' first | exact rfl | (refine qS ?_; constructor)))
              refine VEq.str ?_
              rw [hstep.h, hj1, List.take_length, bnS_wd (fun e => by rw [e, List.length_nil] at hnl; omega), tkS, hP]
              simp
      · rw [if_neg hk0] at hstep
        have o0 : (((bs (tsS (l.take k))).size + (ByteArray.mk #[59]).size : Nat) : Int) ≤ 9223372036854775807 := by omega
        have hzz : (bs (tsS (l.take k) ++ [59])).size = (bs (tsS (l.take k))).size + 1 := by rw [bs_size, bs_size]; simp
        have o1 : (((bs (tsS (l.take k) ++ [59])).size + (l.getD k tk0).n.size : Nat) : Int) ≤ 9223372036854775807 := by omega
        generalize hB : tsS (l.take k) = B at *
        clear hzz
        (repeat' first | (refine Owe.same ?_; refine Owe.mk ?_ ?_) | (refine Fork.same ?_; (first | refine fkD ?_ ?_ | refine fkN ?_ ?_ | refine fkM ?_ ?_) <;> (intro h; try (exfalso; omega))) | ((first | refine OpsL.same ?_ | refine OpsDL.same ?_); first | refine oK C115 rfl rfl rfl ?_) | refine MvQ.stay ?_)
        · exact o0
        · clear o0 o1; exact ⟨by omega, by omega⟩
        · exact o1
        · trivial
        · exact ⟨rfl, by show (7 + (l.getD k tk0).a.length) * 8 ≤ 140737488355328; omega⟩
        skip
        obtain ⟨P, hP⟩ : ∃ P : By, P = B ++ [59] := ⟨_, rfl⟩
        have hPl : P.length ≤ 301001 := by rw [hP]; simp; omega
        refine SatL.frz 6 2 rfl rfl (Nat.le_refl _) ?_
        refine SatL.as 6 (.c (ints (tkN (l.getD k tk0)))) ?_ ?_
        · exact VEq.c _ _ (CEq.sl hnl.symm (fun i hi => tkN_eq _ hi))
        refine SatL.as 3 (sv (P ++ tkB (l.getD k tk0))) ?_ ?_
        · refine VEq.str ?_
          rw [hP]; simp [bs]
        refine Sat.lp (fun j : Nat => ⟨[(0, .c (tks l)), (3, sv (P ++ tkB (l.getD k tk0) ++ bnS ((tkN (l.getD k tk0)).take j))), (4, vi .i64 (k : Int)), (6, .c (ints (tkN (l.getD k tk0)))), (7, vi .i64 (j : Int))], [], 0⟩)
          (fun j => j ≤ (tkN (l.getD k tk0)).length) (fun j => (tkN (l.getD k tk0)).length - j) 0 [] (Nat.zero_le _) ?_ ?_
        · (refine qis ?_ ?_ <;> (repeat' first | exact rfl | (refine qS ?_; constructor)))
          refine VEq.str ?_
          simp [bnS]
        · intro j hj
          refine Fork.dec (fun hlt2 => ?_) (fun hlt2 => ?_)
          · have hlt2 : j < (tkN (l.getD k tk0)).length := by have : (j : Int) < (tkN (l.getD k tk0)).length := hlt2; omega
            have hij : i64P ((tkN (l.getD k tk0)).getD (j : Int).toNat 0) := hi.i _ (getD_mem 0 hlt2)
            have h115 := C115 hij
            have hsp := bnS_len (l := (tkN (l.getD k tk0)).take j) (fun n hn => hi.i n (List.mem_of_mem_take hn))
            rw [List.length_take] at hsp
            have hst : bnS ((tkN (l.getD k tk0)).take (j + 1)) = bnS ((tkN (l.getD k tk0)).take j) ++ 32 :: itoa ((tkN (l.getD k tk0)).getD j 0) := by rw [tk1 0 hlt2, bnS_app]
            have hz1 : (bs (P ++ tkB (l.getD k tk0) ++ bnS ((tkN (l.getD k tk0)).take j))).size ≤ 400000 := by
              rw [bs_size, List.length_append, List.length_append]; omega
            have hz2 : (bs (itoa ((tkN (l.getD k tk0)).getD (j : Int).toNat 0))).size ≤ 21 := by rw [bs_size]; exact itoa_length_le _ hij.1 hij.2
            have hs1 : (ByteArray.mk #[32]).size = 1 := rfl
            generalize hU : P ++ tkB (l.getD k tk0) ++ bnS ((tkN (l.getD k tk0)).take j) = U at *
            have ho1 : (((bs U).size + (ByteArray.mk #[32]).size : Nat) : Int) ≤ 9223372036854775807 := by omega
            have hUl : (bs (U ++ [32])).size = (bs U).size + 1 := by rw [bs_size, bs_size]; simp
            generalize hI : itoa ((tkN (l.getD k tk0)).getD (j : Int).toNat 0) = I at h115 hz2
            have ho3 : (((bs (U ++ [32])).size + (bs I).size : Nat) : Int) ≤ 9223372036854775807 := by omega
            have hI : itoa ((tkN (l.getD k tk0)).getD j 0) = I := hI
            rw [hI] at hst
            have hst := Hd.mk hst
            have hU := Hd.mk hU
            have hjl : (j : Int) + 1 ≤ 1000 := by omega
            clear hij hi hI hsp hz1 hz2 hUl hs1
            (repeat' first | (refine Owe.same ?_; refine Owe.mk ?_ ?_) | (refine Fork.same ?_; (first | refine fkD ?_ ?_ | refine fkN ?_ ?_ | refine fkM ?_ ?_) <;> intro h) | ((first | refine OpsL.same ?_ | refine OpsDL.same ?_); first | refine oK h115 rfl rfl rfl ?_) | refine MvQ.stay ?_)
            · have hjj : (0 : Int) ≤ (j : Int) ∧ (j : Int) < ((tkN (l.getD k tk0)).length : Int) := by clear ho1 ho3; exact ⟨by omega, by omega⟩
              exact ⟨ho1, hjj⟩
            · exact ho3
            · clear ho1 ho3; exact ⟨by omega, by omega⟩
            · refine again (j + 1) [] hlt2 (by omega) ?_
              (refine qis ?_ ?_ <;> (repeat' first | exact rfl | (refine qS ?_; constructor)))
              refine VEq.str ?_
              rw [hst.h, ← List.append_assoc, hU.h]
              simp [bs]
          · have hj1 : j = (tkN (l.getD k tk0)).length := by have : ¬ (j : Int) < (tkN (l.getD k tk0)).length := hlt2; omega
            have hkl : (k : Int) + 1 ≤ 1000 := by omega
            have hstep := Hd.mk hstep
            clear hi
            (repeat' first | (refine Owe.same ?_; refine Owe.mk ?_ ?_) | (refine Fork.same ?_; (first | refine fkD ?_ ?_ | refine fkN ?_ ?_ | refine fkM ?_ ?_) <;> intro h) | ((first | refine OpsL.same ?_ | refine OpsDL.same ?_); first | refine oK C115 rfl rfl rfl ?_) | refine MvQ.stay ?_)
            · clear hj1 hnl; exact ⟨by omega, by omega⟩
            · refine again (k + 1) [] hlt (by omega) ?_
              (refine qis ?_ ?_ <;> (repeat' first | exact rfl | (refine qS ?_; constructor)))
              refine VEq.str ?_
              rw [hstep.h, hj1, List.take_length, bnS_wd (fun e => by rw [e, List.length_nil] at hnl; omega), tkS, hP]
              simp
    · have hk1 : k = l.length := by have : ¬ (k : Int) < l.length := hlt; omega
      have hw : l.take k = l := List.take_of_length_le (by omega)
      rw [hw]
      (repeat' first | (refine Owe.same ?_; first | refine Owe.o ?_ | refine Owe.mk ?_ ?_) | (refine Fork.same ?_; (first | refine fkD ?_ ?_ | refine fkN ?_ ?_ | refine fkM ?_ ?_) <;> intro h) | refine MvQ.stay ?_)
      (refine rqK rfl ?_; (repeat' first | exact rfl | (refine qS ?_; constructor)))
end Go.Pw
