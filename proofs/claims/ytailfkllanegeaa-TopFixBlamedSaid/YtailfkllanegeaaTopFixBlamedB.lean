/- Steps toward the row of this claim: part 2 of 5. Proved as named below, on no condition but those that each theorem states. -/
import Derived.Test.YtailfkllanegeaaTopFixBlamedA
import Derived.MapKept
import Derived.Laws.Cover3
import Derived.Lib.ConvBytes
import Derived.Laws.IdiomStrings
import Derived.WideLaws
import Derived.RangeFuncRecord
set_option linter.unusedVariables false
namespace Go.Pw
open Go Go.RowKit
section
variable {P : Program} {base : Nat} {Γ : Cx} {w : World} {σ σ' : Store} {id nx' : Nat} {o : Oper} {ρ : Operand → Value} {ev : Operand → V} {ob : Prop} {v : V}
theorem RepV.fl {n : Int} {u : Value} (h : RepV Γ w (.c (.fl n)) u) : ∃ b, u = .float .f64 b ∧ IsF b n := by
  cases h with | c _ _ h => exact h
theorem RepV.cx {m n : Int} {u : Value} (h : RepV Γ w (.c (.cx m n)) u) : ∃ a b, u = .complex .f64 a b ∧ IsF a m ∧ IsF b n := by
  cases h with | c _ _ h => exact h
theorem E53.abs {n : Int} (h : E53 n) : n.natAbs < 2 ^ 53 := by unfold E53 at h; omega
theorem op_toF {src dst : TypeId} {ks : IntKind} {x : Operand} (ho : o.op = .convert src dst x) (hs : P.underlying src = some (.int ks)) (hd : P.underlying dst = some (.float .f64)) (hev : ∀ x, RepV Γ w (ev x) (ρ x)) (hst : StoreOk Γ w σ)
    (hx : xop ev σ id (.toF x) = some (ob, v, σ', nx')) (hob : ob) : Gives base Γ w σ id v σ' nx' ((execOp ρ o).run P w) := by
  have h1 := hev x
  simp only [xop] at hx
  split at hx
  · rename_i k n hvx
    rw [hvx] at h1
    simp only [Option.some.injEq, Prod.mk.injEq] at hx; obtain ⟨rfl, rfl, rfl, rfl⟩ := hx
    refine Gives.same hst (u := .float .f64 (FloatKind.f64.nearest n)) ?_ (.c _ _ ⟨_, rfl, nearest_int hob.abs⟩)
    simp only [execOp, ho, Sem.run_bind, convert, run_underlying hs, run_underlying hd, Result.andThen_ok, h1.int, Conv.intToFloat, Sem.run_pure]
  · cases hx
theorem op_toI {src dst : TypeId} {x : Operand} (ho : o.op = .convert src dst x) (hs : P.underlying src = some (.float .f64)) (hd : P.underlying dst = some (.int .i64)) (hev : ∀ x, RepV Γ w (ev x) (ρ x)) (hst : StoreOk Γ w σ)
    (hx : xop ev σ id (.toI x) = some (ob, v, σ', nx')) (hob : ob) : Gives base Γ w σ id v σ' nx' ((execOp ρ o).run P w) := by
  have h1 := hev x
  simp only [xop] at hx
  split at hx
  · rename_i n hvx
    rw [hvx] at h1
    simp only [Option.some.injEq, Prod.mk.injEq] at hx; obtain ⟨rfl, rfl, rfl, rfl⟩ := hx
    obtain ⟨b, hb, hf⟩ := h1.fl
    refine Gives.same hst (u := .int .i64 n) ?_ (rep_int _ _)
    have hr : IntKind.i64.min ≤ n ∧ n ≤ IntKind.i64.max := hob
    simp only [execOp, ho, Sem.run_bind, convert, run_underlying hs, run_underlying hd, Result.andThen_ok, hb, Conv.floatToInt, toInt_isF hf, if_pos hr, Sem.run_pure]
  · cases hx
theorem run_cadd {x y c : Nat} (h : Ieee.double.add x y = some c) : (Op.Complex.arith .add .f64 x y).run P w = .ok c w := by
  have h' : FloatKind.f64.format.add x y = some c := h
  simp [Op.Complex.arith, Op.floatArith, h']
theorem run_csub {x y c : Nat} (h : Ieee.double.sub x y = some c) : (Op.Complex.arith .sub .f64 x y).run P w = .ok c w := by
  have h' : FloatKind.f64.format.sub x y = some c := h
  simp [Op.Complex.arith, Op.floatArith, h']
theorem run_cmul {x y c : Nat} (h : Ieee.double.mul x y = some c) : (Op.Complex.arith .mul .f64 x y).run P w = .ok c w := by
  have h' : FloatKind.f64.format.mul x y = some c := h
  simp [Op.Complex.arith, Op.floatArith, h']
theorem run_cconv {x : Nat} : (Op.Complex.conv .f64 x .f64).run P w = .ok x w := by simp [Op.Complex.conv]
theorem op_cplx {c : Call} {x y : Operand} (ho : o.op = .call c) (hc : c.callee = .builtin .complex) (hargs : c.args.toList = [x, y]) (hev : ∀ x, RepV Γ w (ev x) (ρ x)) (hst : StoreOk Γ w σ)
    (hx : xop ev σ id (.cplx x y) = some (ob, v, σ', nx')) : Gives base Γ w σ id v σ' nx' ((execOp ρ o).run P w) := by
  have h1 := hev x
  have h2 := hev y
  have hargs' : c.args = #[x, y] := by rw [← Array.toArray_toList (xs := c.args), hargs]
  simp only [xop] at hx
  split at hx
  · rename_i a b hvx hvy
    rw [hvx] at h1; rw [hvy] at h2
    simp only [Option.some.injEq, Prod.mk.injEq] at hx; obtain ⟨_, rfl, rfl, rfl⟩ := hx
    obtain ⟨p, hp, hf⟩ := h1.fl
    obtain ⟨q, hq, hg⟩ := h2.fl
    refine Gives.same hst (u := .complex .f64 p q) ?_ (.c _ _ ⟨_, _, rfl, hf, hg⟩)
    have e : ∀ a t, (Builtin.complex_ a t #[.float .f64 p, .float .f64 q]).run P w = .ok (.complex .f64 p q) w := fun _ _ => rfl
    simp [execOp, ho, resolve, hc, hargs', invoke, builtin, hp, hq, e]
  · cases hx
theorem op_reC {c : Call} {x : Operand} (ho : o.op = .call c) (hc : c.callee = .builtin .real) (hargs : c.args.toList = [x]) (hev : ∀ x, RepV Γ w (ev x) (ρ x)) (hst : StoreOk Γ w σ)
    (hx : xop ev σ id (.reC x) = some (ob, v, σ', nx')) : Gives base Γ w σ id v σ' nx' ((execOp ρ o).run P w) := by
  have h1 := hev x
  have hargs' : c.args = #[x] := by rw [← Array.toArray_toList (xs := c.args), hargs]
  simp only [xop] at hx
  split at hx
  · rename_i a b hvx
    rw [hvx] at h1
    simp only [Option.some.injEq, Prod.mk.injEq] at hx; obtain ⟨_, rfl, rfl, rfl⟩ := hx
    obtain ⟨p, q, hp, hf, hg⟩ := h1.cx
    refine Gives.same hst (u := .float .f64 p) ?_ (.c _ _ ⟨_, rfl, hf⟩)
    have e : ∀ a t, (Builtin.real_ a t #[.complex .f64 p q]).run P w = .ok (.float .f64 p) w := fun _ _ => rfl
    simp [execOp, ho, resolve, hc, hargs', invoke, builtin, hp, e]
  · cases hx
theorem op_imC {c : Call} {x : Operand} (ho : o.op = .call c) (hc : c.callee = .builtin .imag) (hargs : c.args.toList = [x]) (hev : ∀ x, RepV Γ w (ev x) (ρ x)) (hst : StoreOk Γ w σ)
    (hx : xop ev σ id (.imC x) = some (ob, v, σ', nx')) : Gives base Γ w σ id v σ' nx' ((execOp ρ o).run P w) := by
  have h1 := hev x
  have hargs' : c.args = #[x] := by rw [← Array.toArray_toList (xs := c.args), hargs]
  simp only [xop] at hx
  split at hx
  · rename_i a b hvx
    rw [hvx] at h1
    simp only [Option.some.injEq, Prod.mk.injEq] at hx; obtain ⟨_, rfl, rfl, rfl⟩ := hx
    obtain ⟨p, q, hp, hf, hg⟩ := h1.cx
    refine Gives.same hst (u := .float .f64 q) ?_ (.c _ _ ⟨_, rfl, hg⟩)
    have e : ∀ a t, (Builtin.imag_ a t #[.complex .f64 p q]).run P w = .ok (.float .f64 q) w := fun _ _ => rfl
    simp [execOp, ho, resolve, hc, hargs', invoke, builtin, hp, e]
  · cases hx
theorem op_cbin {op : BinOp} {t yt : TypeId} {x y : Operand} (ho : o.op = .binOp op t x y yt) (hev : ∀ x, RepV Γ w (ev x) (ρ x)) (hst : StoreOk Γ w σ)
    (hx : xop ev σ id (.cbin op x y) = some (ob, v, σ', nx')) (hob : ob) : Gives base Γ w σ id v σ' nx' ((execOp ρ o).run P w) := by
  have h1 := hev x
  have h2 := hev y
  simp only [xop] at hx
  split at hx
  · rename_i a b c d hvx hvy
    rw [hvx] at h1; rw [hvy] at h2
    obtain ⟨p, q, hp, hpa, hqb⟩ := h1.cx
    obtain ⟨r, s, hr, hrc, hsd⟩ := h2.cx
    cases op <;> simp only [reduceCtorEq, Option.some.injEq, Prod.mk.injEq] at hx
    · obtain ⟨rfl, rfl, rfl, rfl⟩ := hx
      obtain ⟨e, he, hf⟩ := add_isF hpa hrc hob.1.abs
      obtain ⟨e', he', hf'⟩ := add_isF hqb hsd hob.2.abs
      refine Gives.same hst (u := .complex .f64 e e') ?_ (.c _ _ ⟨_, _, rfl, hf, hf'⟩)
      simp [execOp, ho, eqGuard, binOp, hp, hr, Op.complexOp, run_cadd he, run_cadd he']
    · obtain ⟨rfl, rfl, rfl, rfl⟩ := hx
      obtain ⟨⟨o1, o2, o3, o4⟩, o5, o6⟩ := hob
      obtain ⟨e1, h1, f1⟩ := mul_isF hpa hrc o1.abs
      obtain ⟨e2, h2, f2⟩ := mul_isF hqb hsd o2.abs
      obtain ⟨e3, h3, f3⟩ := mul_isF hpa hsd o3.abs
      obtain ⟨e4, h4, f4⟩ := mul_isF hqb hrc o4.abs
      obtain ⟨e5, h5, f5⟩ := sub_isF f1 f2 o5.abs
      obtain ⟨e6, h6, f6⟩ := add_isF f3 f4 o6.abs
      refine Gives.same hst (u := .complex .f64 e5 e6) ?_ (.c _ _ ⟨_, _, rfl, f5, f6⟩)
      simp [execOp, ho, eqGuard, binOp, hp, hr, Op.complexOp, run_cconv, Op.Complex.product, Op.Complex.mul, Op.Complex.sub, Op.Complex.add, run_cmul h1, run_cmul h2, run_cmul h3, run_cmul h4, run_csub h5, run_cadd h6]
  · cases hx
theorem op_mkmap {t : TypeId} {m : Nat} (ho : o.op = .makeMap t none) (hst : StoreOk Γ w σ) (hid : Γ.ρ id = none) (hbase : base ≤ id)
    (hx : xop ev σ id (.mkmap m) = some (ob, v, σ', nx')) : Gives base Γ w σ id v σ' nx' ((execOp ρ o).run P w) := by
  simp only [xop, Option.some.injEq, Prod.mk.injEq] at hx
  obtain ⟨_, rfl, rfl, rfl⟩ := hx
  have hb := alloc_ent (base := base) hst hid hbase (.map #[] 0) none (.mp m []) ⟨fun hI => Nat.lt_irrefl _ (hst.im _ hI), #[], 0, heap_alloc_new' _ _, rfl, fun i k z h => by simp at h⟩
  refine ⟨.map (some w.heap.size), w.alloc (.map #[] 0), Γ.upd id w.heap.size none, .inl ?_, .c _ _ ⟨_, upd_ρ_same, rfl⟩, hb.1, CxLe.upd _ _ _ hid, hb.2, fun i hi => upd_ρ hi, .inr rfl⟩
  have hr : (Instr.makeMap t none).run P w = .ok (.map (some w.heap.size)) (w.alloc (.map #[] 0)) := rfl
  simp only [execOp, ho, Option.map_none, Sem.run_bind, hr, Result.andThen_ok, Sem.run_pure]
theorem run_getM {r : Nat} {es : Array MapEntry} {clock : Nat} (hb : w.heap[r]? = some (.map es clock)) : (getObj r).run P w = .ok (.map es clock) w := MapKept.run_getObj_map hb
theorem run_setM {r : Nat} {es : Array MapEntry} {clock : Nat} (o : Obj) (hb : w.heap[r]? = some (.map es clock)) : (setObj r o).run P w = .ok () { w with heap := w.heap.setIfInBounds r o } := MapKept.run_setObj_map o hb
theorem setM_heap {r k : Nat} {x : Obj} : ({ w with heap := w.heap.setIfInBounds r x } : World).heap[k]? = if r = k then (if k < w.heap.size then some x else none) else w.heap[k]? := by
  simp only [Array.getElem?_setIfInBounds]
  by_cases h : r = k
  · subst h; simp
  · simp [h]
theorem mval_rep {m : Nat} {u : Value} {z : Int} {y : V} (hm : mval m y = some z) (h : RepV Γ w y u) : u = mvalue m z := by
  unfold mval at hm
  split at hm
  · split at hm
    · cases hm
      cases h with
      | agg _ us hl _ =>
        have : us = #[] := Array.eq_empty_of_size_eq_zero (by simpa using hl)
        subst this; rfl
    · cases hm
  · split at hm
    · cases hm; exact h.int
    · cases hm
  · split at hm
    · cases hm; exact h.tru
    · cases hm; exact h.fls
    · cases hm
  · cases hm
theorem mput_new {k z : Int} : ∀ {es : List (Int × Int)}, (∀ (i : Nat) a y, es[i]? = some (a, y) → a ≠ k) → mput es k z = es ++ [(k, z)]
  | [], _ => rfl
  | (a, y) :: es, h => by
    have h0 := h 0 a y rfl
    simp only [mput, if_neg h0, List.cons_append, List.cons.injEq, true_and]
    exact mput_new fun i a y hi => h (i + 1) a y (by simpa using hi)
theorem mput_old {k z : Int} : ∀ {es : List (Int × Int)} (j : Nat) (y : Int), es[j]? = some (k, y) → (∀ (i : Nat) a y, i < j → es[i]? = some (a, y) → a ≠ k) → mput es k z = es.set j (k, z)
  | [], j, y, h, _ => by simp at h
  | (a, x) :: es, j, y, h, hl => by
    cases j with
    | zero => simp at h; simp [mput, h.1]
    | succ j =>
      have h0 := hl 0 a x (by omega) rfl
      simp only [mput, if_neg h0, List.set_cons_succ, List.cons.injEq, true_and]
      exact mput_old j y (by simpa using h) fun i a y hi he => hl (i + 1) a y (by omega) (by simpa using he)
theorem findNow_int {ki : IntKind} {k : Int} : ∀ (l : List MapEntry) (es : List (Int × Int)) (m i : Nat), l.length = es.length → (∀ (q : Nat) a z, es[q]? = some (a, z) → ∃ e, l[q]? = some e ∧ e.key = .int .i64 a ∧ e.val = mvalue m z) →
    (Instr.findNow (.int ki) (.int .i64 k) l i = some none ∧ ∀ (q : Nat) a y, es[q]? = some (a, y) → a ≠ k) ∨
      ∃ j e y, Instr.findNow (.int ki) (.int .i64 k) l i = some (some (i + j, e)) ∧ es[j]? = some (k, y) ∧ ∀ (q : Nat) a y, q < j → es[q]? = some (a, y) → a ≠ k
  | [], es, m, i, hl, _ => by
    have : es = [] := List.eq_nil_of_length_eq_zero hl.symm
    subst this
    exact .inl ⟨rfl, fun q a y h => by simp at h⟩
  | e :: l, [], m, i, hl, _ => by simp at hl
  | e :: l, (a, z) :: es, m, i, hl, h => by
    obtain ⟨e', he', hk, _⟩ := h 0 a z rfl
    simp at he'; subst he'
    simp only [Instr.findNow, hk, Instr.sameNow, if_true]
    by_cases hak : a = k
    · subst hak
      exact .inr ⟨0, e.val, z, by simp, rfl, fun q _ _ hq => absurd hq (Nat.not_lt_zero _)⟩
    · have hb : (k == a) = false := by simpa using Ne.symm hak
      rw [hb]
      rcases findNow_int l es m (i + 1) (by simpa using hl) (fun q a z hq => by simpa using h (q + 1) a z (by simpa using hq)) with ⟨h1, h2⟩ | ⟨j, e', y, h1, h2, h3⟩
      · refine .inl ⟨h1, fun q b y hq => ?_⟩
        cases q with
        | zero => simp at hq; rw [← hq.1]; exact hak
        | succ q => exact h2 q b y (by simpa using hq)
      · refine .inr ⟨j + 1, e', y, by rw [h1, show i + 1 + j = i + (j + 1) by omega], by simpa using h2, fun q b y hq hqe => ?_⟩
        cases q with
        | zero => simp at hqe; rw [← hqe.1]; exact hak
        | succ q => exact h3 q b y (by omega) (by simpa using hqe)
theorem op_mset {m : Nat} {t ky e : TypeId} {a k x : Operand} (ho : o.op = .mapUpdate t a k x) (hu : P.underlying t = some (.map ky e)) (hk : P.underlying ky = some (.int .i64)) (hev : ∀ x, RepV Γ w (ev x) (ρ x)) (hst : StoreOk Γ w σ)
    (hx : xop ev σ id (.mset m a k x) = some (ob, v, σ', nx')) : Gives base Γ w σ id v σ' nx' ((execOp ρ o).run P w) := by
  have h1 := hev a
  have h2 := hev k
  have h3 := hev x
  simp only [xop] at hx
  split at hx
  · rename_i i n hva hvk
    rw [hva] at h1; rw [hvk] at h2
    cases h1 with | c _ _ h1 =>
    obtain ⟨b, hb, hub⟩ := h1
    split at hx
    · rename_i m' es hgt
      split at hx
      · rename_i hm
        have hm := Nat.eq_of_beq_eq_true hm
        subst hm
        split at hx
        · rename_i z hz
          rw [frs_eq] at hx
          simp only [Option.some.injEq, Prod.mk.injEq] at hx
          obtain ⟨_, rfl, rfl, rfl⟩ := hx
          have hval := mval_rep hz h3
          obtain ⟨b', hb', hnI, l, clock, hh, hsz, hes⟩ := hst.ok i _ hgt
          rw [hb] at hb'; cases hb'
          have hlt : b < w.heap.size := (Array.getElem?_eq_some_iff.1 hh).1
          have hl : LiveE Γ i (.mp m es) := trivial
          have hes' : ∀ (q : Nat) a z, es[q]? = some (a, z) → ∃ e, l.toList[q]? = some e ∧ e.key = .int .i64 a ∧ e.val = mvalue m z := fun q a z hq => by
            obtain ⟨e, he, h⟩ := hes q a z hq
            exact ⟨e, by simpa using he, h⟩
          suffices hs : ∃ l' clock', (execOp ρ o).run P w = .ok .skip { w with heap := w.heap.setIfInBounds b (.map l' clock') } ∧ l'.size = (mput es n z).length ∧ ∀ (q : Nat) a y, (mput es n z)[q]? = some (a, y) → ∃ e, l'[q]? = some e ∧ e.key = .int .i64 a ∧ e.val = mvalue m y by
            obtain ⟨l', clock', hrun, hsz', hes2⟩ := hs
            have hoth : ∀ q, q < w.heap.size → q ≠ b → ({ w with heap := w.heap.setIfInBounds b (.map l' clock') } : World).heap[q]? = w.heap[q]? := fun q _ hq => by rw [setM_heap, if_neg (Ne.symm hq)]
            have hent : EntOk Γ { w with heap := w.heap.setIfInBounds b (.map l' clock') } i b (.mp m (mput es n z)) :=
              ⟨hnI, l', clock', by rw [setM_heap, if_pos rfl, if_pos hlt], hsz', hes2⟩
            exact ⟨undef, _, Γ, .inr ⟨hrun, rfl⟩, .unk _, hst.modify hgt hb hl (by simp) hoth hent, CxLe.refl _,
              Ext.modify (liveId_iff.2 ⟨_, hgt, hl⟩) hb rfl rfl rfl (by simp) hoth (fun k hk => live_set hgt hl hk), fun _ _ => rfl, .inl ⟨rfl, rfl⟩⟩
          have hck : ∀ w : World, (Instr.checkKey false 10000 ky (.int .i64 n)).run P w = .ok () w := fun w => by
            exact MapKept.run_checkKey (k := .int .i64 n) hk (by simp [MapKept.IsKey]) false 9999
          rcases findNow_int (ki := .i64) (k := n) l.toList es m 0 (by simpa using hsz) hes' with ⟨hf, hn⟩ | ⟨j, ev', y, hf, hj, hn⟩
          · refine ⟨l.push { key := .int .i64 n, val := ρ x, born := clock }, clock + 1, ?_, ?_, fun q a y hq => ?_⟩
            · have hfk : (Instr.findKey ky (.int .i64 n) l.toList).run P w = .ok none w := by
                simp [Instr.findKey, run_underlying hk, hf]
              simp [execOp, ho, Instr.mapUpdate, run_underlying hu, hub, h2.int, run_getM hh, hck, hfk, run_setM _ hh]
            · rw [mput_new hn]; simp [hsz]
            · rw [mput_new hn] at hq
              by_cases hql : q < es.length
              · rw [List.getElem?_append_left hql] at hq
                obtain ⟨e, he, h⟩ := hes q a y hq
                refine ⟨e, ?_, h⟩
                rw [Array.getElem?_push, if_neg (by omega)]; exact he
              · rw [List.getElem?_append_right (by omega)] at hq
                have hq0 : q = es.length := by
                  rcases Nat.lt_or_ge (q - es.length) 1 with h | h
                  · omega
                  · rw [List.getElem?_eq_none (by simpa using h)] at hq; cases hq
                subst hq0
                simp only [Nat.sub_self, List.getElem?_cons_zero, Option.some.injEq, Prod.mk.injEq] at hq
                obtain ⟨rfl, rfl⟩ := hq
                refine ⟨_, by rw [Array.getElem?_push, if_pos hsz.symm], rfl, hval⟩
          · obtain ⟨e0, he0, hk0, hv0⟩ := hes j n y hj
            simp only [Nat.zero_add] at hf
            refine ⟨l.modify j fun e => { e with key := .int .i64 n, val := ρ x }, clock, ?_, ?_, fun q a y' hq => ?_⟩
            · have hfk : (Instr.findKey ky (.int .i64 n) l.toList).run P w = .ok (some (j, ev')) w := by
                simp [Instr.findKey, run_underlying hk, hf]
              have hky : (Instr.keyThatStays (.int .i64 n) (.int .i64 n)).run P w = .ok (.int .i64 n) w := by
                simp [Instr.keyThatStays, Instr.sameBits]
              simp [execOp, ho, Instr.mapUpdate, run_underlying hu, hub, h2.int, run_getM hh, hck, hfk, he0, hk0, hky, run_setM _ hh]
            · rw [mput_old j y hj hn]; simp [hsz]
            · rw [mput_old j y hj hn, List.getElem?_set] at hq
              rw [Array.getElem?_modify]
              by_cases hqj : j = q
              · subst hqj
                rw [if_pos rfl] at hq
                split at hq
                · simp only [Option.some.injEq, Prod.mk.injEq] at hq
                  obtain ⟨rfl, rfl⟩ := hq
                  exact ⟨_, by rw [if_pos rfl, he0]; rfl, rfl, hval⟩
                · cases hq
              · rw [if_neg hqj] at hq
                obtain ⟨e, he, h⟩ := hes q a y' hq
                exact ⟨e, by rw [if_neg hqj]; exact he, h⟩
        · cases hx
      · cases hx
    · cases hx
  · cases hx
theorem findNow_look {ki : IntKind} {k : Int} {m : Nat} : ∀ (l : List MapEntry) (es : List (Int × Int)) (i : Nat), l.length = es.length → (∀ (q : Nat) a z, es[q]? = some (a, z) → ∃ e, l[q]? = some e ∧ e.key = .int .i64 a ∧ e.val = mvalue m z) →
    (mlook es k = none ∧ Instr.findNow (.int ki) (.int .i64 k) l i = some none) ∨ ∃ y j, mlook es k = some y ∧ Instr.findNow (.int ki) (.int .i64 k) l i = some (some (j, mvalue m y))
  | [], es, i, hl, _ => by
    have : es = [] := List.eq_nil_of_length_eq_zero hl.symm
    subst this
    exact .inl ⟨rfl, rfl⟩
  | e :: l, [], i, hl, _ => by simp at hl
  | e :: l, (a, z) :: es, i, hl, h => by
    obtain ⟨e', he', hk, hv⟩ := h 0 a z rfl
    simp at he'; subst he'
    simp only [Instr.findNow, hk, Instr.sameNow, if_true, mlook]
    by_cases hak : a = k
    · subst hak
      exact .inr ⟨z, i, by simp, by simp [hv]⟩
    · have hb : (k == a) = false := by simpa using Ne.symm hak
      rw [hb, if_neg hak]
      exact findNow_look l es (i + 1) (by simpa using hl) (fun q a z hq => by simpa using h (q + 1) a z (by simpa using hq))
theorem zkind_run {e : TypeId} {m : Nat} (h : zkind P e = some m) : (m = 1 ∨ m = 2) ∧ ∀ w : World, (zeroValue e).run P w = .ok (mvalue m 0) w := by
  unfold zkind at h
  split at h
  · rename_i i hi
    split at h
    · rename_i n hz
      split at h
      · rename_i hn; subst hn; cases h
        exact ⟨.inl rfl, fun w => run_zeroValue' hi hz⟩
      · cases h
    · rename_i hz
      cases h
      exact ⟨.inr rfl, fun w => run_zeroValue' hi hz⟩
    · cases h
  · cases h
theorem mgv_rep {m : Nat} (hm : m = 1 ∨ m = 2) {ok : Bool} {r : Option Int} {v : V} (h : mgv m ok r = some v) : RepV Γ w v (if ok then .tuple #[mvalue m (r.getD 0), .bool r.isSome] else mvalue m (r.getD 0)) := by
  rcases hm with rfl | rfl <;> cases ok <;> (simp only [mgv, Option.some.injEq] at h; subst h)
  · exact .c _ _ (.v _ rfl)
  · refine .tup _ _ rfl fun i v u hv hu => ?_
    match i, hv, hu with
    | 0, hv, hu => cases hv; cases hu; exact .c _ _ (.v _ rfl)
    | 1, hv, hu => cases hv; cases hu; exact .c _ _ (.v _ rfl)
    | i + 2, hv, hu => cases hv
  · exact .c _ _ (.v _ rfl)
  · refine .tup _ _ rfl fun i v u hv hu => ?_
    match i, hv, hu with
    | 0, hv, hu => cases hv; cases hu; exact .c _ _ (.v _ rfl)
    | 1, hv, hu => cases hv; cases hu; exact .c _ _ (.v _ rfl)
    | i + 2, hv, hu => cases hv
theorem op_mget {m : Nat} {ok : Bool} {t ky e : TypeId} {a k : Operand} (ho : o.op = .lookup t a k ok) (hu : P.underlying t = some (.map ky e)) (hk : P.underlying ky = some (.int .i64)) (hz : zkind P e = some m) (hev : ∀ x, RepV Γ w (ev x) (ρ x)) (hst : StoreOk Γ w σ)
    (hx : xop ev σ id (.mget m ok a k) = some (ob, v, σ', nx')) : Gives base Γ w σ id v σ' nx' ((execOp ρ o).run P w) := by
  have h1 := hev a
  have h2 := hev k
  obtain ⟨hm12, hzr⟩ := zkind_run hz
  simp only [xop] at hx
  split at hx
  · rename_i i n hva hvk
    rw [hva] at h1; rw [hvk] at h2
    cases h1 with | c _ _ h1 =>
    obtain ⟨b, hb, hub⟩ := h1
    split at hx
    · rename_i m' es hgt
      split at hx
      · rename_i hm
        have hm := Nat.eq_of_beq_eq_true hm
        subst hm
        split at hx
        · rename_i y hy
          simp only [Option.some.injEq, Prod.mk.injEq] at hx
          obtain ⟨_, rfl, rfl, rfl⟩ := hx
          obtain ⟨b', hb', hnI, l, clock, hh, hsz, hes⟩ := hst.ok i _ hgt
          rw [hb] at hb'; cases hb'
          have hes' : ∀ (q : Nat) a z, es[q]? = some (a, z) → ∃ e, l.toList[q]? = some e ∧ e.key = .int .i64 a ∧ e.val = mvalue m z := fun q a z hq => by
            obtain ⟨e, he, h⟩ := hes q a z hq
            exact ⟨e, by simpa using he, h⟩
          have hck : ∀ (q : Bool) (w : World), (Instr.checkKey q 10000 ky (.int .i64 n)).run P w = .ok () w := fun q w => by
            exact MapKept.run_checkKey (k := .int .i64 n) hk (by simp [MapKept.IsKey]) q 9999
          refine Gives.same hst ?_ (mgv_rep hm12 hy)
          rcases findNow_look (ki := .i64) (k := n) l.toList es 0 (by simpa using hsz) hes' with ⟨e1, e2⟩ | ⟨y', j, e1, e2⟩
          · have hfk : (Instr.findKey ky (.int .i64 n) l.toList).run P w = .ok none w := by
              simp [Instr.findKey, run_underlying hk, e2]
            rw [e1]
            cases ok <;> simp [execOp, ho, Instr.lookup, run_underlying hu, hub, h2.int, run_getM hh, hck, hfk, hzr]
          · have hfk : (Instr.findKey ky (.int .i64 n) l.toList).run P w = .ok (some (j, mvalue m y')) w := by
              simp [Instr.findKey, run_underlying hk, e2]
            rw [e1]
            cases ok <;> simp [execOp, ho, Instr.lookup, run_underlying hu, hub, h2.int, run_getM hh, hck, hfk]
        · cases hx
      · cases hx
    · cases hx
  · cases hx
theorem op_lenM {x : Operand} {t ky e : TypeId} {c : Call} (ho : o.op = .call c) (hc : c.callee = .builtin .len) (hargs : c.args.toList = [x]) (htys : c.argTypes.toList = [t])
    (ht : P.underlying t = some (.map ky e)) (hev : ∀ x, RepV Γ w (ev x) (ρ x)) (hst : StoreOk Γ w σ)
    (hx : xop ev σ id (.lenM x) = some (ob, v, σ', nx')) : Gives base Γ w σ id v σ' nx' ((execOp ρ o).run P w) := by
  have hr := hev x
  have hargs' : c.args = #[x] := by rw [← Array.toArray_toList (xs := c.args), hargs]
  have htys' : c.argTypes = #[t] := by rw [← Array.toArray_toList (xs := c.argTypes), htys]
  simp only [xop] at hx
  split at hx
  · rename_i i hv
    rw [hv] at hr
    cases hr with | c _ _ hr =>
    obtain ⟨b, hb, hub⟩ := hr
    split at hx
    · rename_i m es hgt
      simp only [Option.some.injEq, Prod.mk.injEq] at hx; obtain ⟨_, rfl, rfl, rfl⟩ := hx
      obtain ⟨b', hb', hnI, l, clock, hh, hsz, hes⟩ := hst.ok i _ hgt
      rw [hb] at hb'; cases hb'
      refine Gives.same hst (u := .int .i64 es.length) ?_ (rep_int _ _)
      simp [execOp, ho, resolve, hc, hargs', htys', invoke, builtin, Builtin.len_, run_underlying ht, hub, run_getM hh, goInt, hsz]
    · cases hx
  · cases hx
theorem run_isnil {neg : Bool} {op : BinOp} {t e yt : TypeId} {x : Operand} {A : Option Addr} {n c : Nat} (ho : o.op = .binOp op t x (.const (.slice none 0 0)) yt) (ht : P.underlying t = some (.slice e)) (hop : op = if neg then .neq else .eql)
    (hρ : ρ (.const (.slice none 0 0)) = .slice none 0 0) (hx : ρ x = .slice A n c) : (execOp ρ o).run P w = .ok (.value (.bool (A.isNone != neg))) w := by
  have he : (Op.equal t (.slice A n c) (.slice none 0 0)).run P w = .ok A.isNone w := run_equal_slice_nil w t e A n c ht
  have hg : ∀ op, (eqGuard op t x (.const (.slice none 0 0)) (.slice A n c) (.slice none 0 0)).run P w = .ok () w := fun op => by cases op <;> rfl
  have hb1 : (binOp .eql t (.slice A n c) (.slice none 0 0)).run P w = .ok (.bool A.isNone) w := by simp only [binOp, Sem.run_bind, he, Result.andThen_ok, Sem.run_pure]
  have hb2 := run_neq_slice_nil (P := P) w t e A n c ht
  cases neg with
  | true =>
    simp only [if_true] at hop; subst hop
    simp only [execOp, ho, hx, hρ, Sem.run_bind, hg, hb2, Result.andThen_ok, Sem.run_pure]
    cases A <;> rfl
  | false =>
    simp only [Bool.false_eq_true, if_false] at hop; subst hop
    simp only [execOp, ho, hx, hρ, Sem.run_bind, hg, hb1, Result.andThen_ok, Sem.run_pure]
    cases A <;> rfl
theorem sl_some {I : Nat → Prop} {s n : Nat} {f : Nat → List D} {u : Value} (hn : 0 < n) (hr : RepD I w (.sl s n f) u) : ∃ a c, u = .slice (some a) n c := by
  cases hr with
  | slE => omega
  | sl _ _ _ ad c => exact ⟨ad, c, rfl⟩
theorem op_isnil {neg : Bool} {op : BinOp} {t e yt : TypeId} {x : Operand} (ho : o.op = .binOp op t x (.const (.slice none 0 0)) yt) (ht : P.underlying t = some (.slice e)) (hop : op = if neg then .neq else .eql)
    (hρ : ρ (.const (.slice none 0 0)) = .slice none 0 0) (hev : ∀ x, RepV Γ w (ev x) (ρ x)) (hst : StoreOk Γ w σ) (hx : xop ev σ id (.isnil neg x) = some (ob, v, σ', nx')) (hob : ob) : Gives base Γ w σ id v σ' nx' ((execOp ρ o).run P w) := by
  have hr := hev x
  simp only [xop] at hx
  split at hx
  · rename_i hv
    rw [hv] at hr
    have hu : ρ x = .slice none 0 0 := repV_nil hr
    split at hx <;> simp only [Option.some.injEq, Prod.mk.injEq] at hx <;> obtain ⟨_, rfl, rfl, rfl⟩ := hx
    · exact Gives.same hst (run_isnil (neg := true) ho ht hop hρ hu) (.c _ _ rfl)
    · exact Gives.same hst (run_isnil (neg := false) ho ht hop hρ hu) (.c _ _ rfl)
  · rename_i s n f hv
    rw [hv] at hr
    cases hr with | c _ _ hr =>
    have hu : 0 < n → ∃ a c, ρ x = .slice (some a) n c := fun hn => by
      exact sl_some hn hr
    split at hx <;> simp only [Option.some.injEq, Prod.mk.injEq] at hx <;> obtain ⟨rfl, rfl, rfl, rfl⟩ := hx <;> obtain ⟨a, c, hu⟩ := hu hob
    · exact Gives.same hst (run_isnil (neg := true) ho ht hop hρ hu) (.c _ _ rfl)
    · exact Gives.same hst (run_isnil (neg := false) ho ht hop hρ hu) (.c _ _ rfl)
  · rename_i i n hv
    rw [hv] at hr
    cases hr with | c _ _ hr =>
    obtain ⟨b, hb, hr⟩ := hr
    have hu : 0 < n → ∃ a c, ρ x = .slice (some a) n c := fun hn => by
      rcases hr with ⟨h1, _⟩ | ⟨c, _, h2⟩
      · omega
      · exact ⟨_, _, h2⟩
    split at hx <;> simp only [Option.some.injEq, Prod.mk.injEq] at hx <;> obtain ⟨rfl, rfl, rfl, rfl⟩ := hx <;> obtain ⟨a, c, hu⟩ := hu hob
    · exact Gives.same hst (run_isnil (neg := true) ho ht hop hρ hu) (.c _ _ rfl)
    · exact Gives.same hst (run_isnil (neg := false) ho ht hop hρ hu) (.c _ _ rfl)
  · cases hx
end
end Go.Pw
set_option linter.unusedVariables false
namespace Go.Pw
open Go Go.RowKit
section
variable {P : Program} {base : Nat} {Γ : Cx} {w : World} {σ σ' : Store} {id nx' : Nat} {o : Oper} {ρ : Operand → Value} {ev : Operand → V} {ob : Prop} {v : V}
theorem rep_str (b : ByteArray) : RepV Γ w (.c (.d (.v (.string b)))) (.string b) := rep_exact rfl
theorem cat_eq (a b : ByteArray) : a ++ b = ⟨(a.data.toList ++ b.data.toList).toArray⟩ := by
  apply ByteArray.ext; simp
theorem ext_eq (b : ByteArray) (i j : Nat) : b.extract i j = cutB b i j := by
  have e : b.data.toList.extract i j = (b.data.toList.take j).drop i := by
    by_cases h : i ≤ j
    · have : List.drop i (List.take (i + (j - i)) b.data.toList) = List.take (j - i) (List.drop i b.data.toList) := (List.take_drop ..).symm
      rw [List.extract_eq_take_drop, ← this, show i + (j - i) = j by omega]
    · rw [List.extract_eq_take_drop, show j - i = 0 by omega, List.take_zero, List.drop_of_length_le (by rw [List.length_take]; omega)]
  apply ByteArray.ext
  apply Array.toList_inj.1
  have h2 : (cutB b i j).data.toList = (b.data.toList.take j).drop i := rfl
  rw [h2, ← e]; simp
theorem ext_end (b : ByteArray) (i : Nat) : b.extract i b.size = ⟨(b.data.toList.drop i).toArray⟩ := by
  rw [ext_eq]
  have : b.data.toList.take b.size = b.data.toList := List.take_of_length_le (by show b.data.toList.length ≤ b.data.size; simp)
  rw [cutB, this]
theorem op_catS {t yt : TypeId} {x y : Operand} (ho : o.op = .binOp .add t x y yt) (ht : P.underlying t = some .string)
    (hev : ∀ x, RepV Γ w (ev x) (ρ x)) (hst : StoreOk Γ w σ) (hx : xop ev σ id (.catS x y) = some (ob, v, σ', nx')) (hob : ob) : Gives base Γ w σ id v σ' nx' ((execOp ρ o).run P w) := by
  have hrx := hev x
  have hry := hev y
  simp only [xop] at hx
  split at hx
  · rename_i a b ha hb
    rw [ha] at hrx
    rw [hb] at hry
    simp only [Option.some.injEq, Prod.mk.injEq] at hx; obtain ⟨rfl, rfl, rfl, rfl⟩ := hx
    rw [← cat_eq]
    refine Gives.same hst (u := .string (a ++ b)) ?_ (rep_str _)
    have hg : (eqGuard .add t x y (.string a) (.string b)).run P w = .ok () w := rfl
    have hm : IntKind.i64.max = 9223372036854775807 := rfl
    simp only [execOp, ho, Sem.run_bind, hrx.str, hry.str, hg, Result.andThen_ok, binOp, Op.stringOp, hm]
    rw [if_neg (by omega)]
    rfl
  · cases hx
theorem op_slcS {t : TypeId} {x : Operand} {lo hi : Option Operand} (ho : o.op = .slice t x lo hi none) (hu : P.underlying t = some .string)
    (hev : ∀ x, RepV Γ w (ev x) (ρ x)) (hst : StoreOk Γ w σ) (hx : xop ev σ id (.slcS x lo hi) = some (ob, v, σ', nx')) (hob : ob) : Gives base Γ w σ id v σ' nx' ((execOp ρ o).run P w) := by
  have hr := hev x
  have hbound : ∀ k (i : Int) (y : Nat) code, 0 ≤ i → i ≤ y → (Instr.sliceBound (.int k i) y code).run P w = .ok i.toNat w := fun k i y code h0 h1 => by
    simp only [Instr.sliceBound, asIntOf, Sem.run_bind, Sem.run_pure, Result.andThen_ok]
    rw [if_pos ⟨h0, h1⟩]; rfl
  simp only [xop] at hx
  split at hx
  · rename_i b hv
    rw [hv] at hr
    have hb := hr.str
    have main : ∀ (l h m : Nat), (Instr.sliceBounds false b.size b.size (lo.map ρ) (hi.map ρ) none).run P w = .ok (l, h, m) w → (execOp ρ o).run P w = .ok (.value (.string (b.extract l h))) w := by
      intro l h m hh
      simp only [execOp, ho, Sem.run_bind, Instr.sliceAt, run_underlying hu, Result.andThen_ok, Instr.slice, hb, Option.map_none, Option.isSome_none, Bool.false_eq_true, if_false, hh, Sem.run_pure]
    split at hx
    · simp only [Option.some.injEq, Prod.mk.injEq] at hx; obtain ⟨_, rfl, rfl, rfl⟩ := hx
      refine Gives.same hst (main 0 b.size b.size (by simp [Instr.sliceBounds])) ?_
      have e : b.extract 0 b.size = b := ByteArray.ext (by simp)
      rw [e]; exact rep_str _
    · rename_i hop
      split at hx
      · rename_i k h hvh
        simp only [Option.some.injEq, Prod.mk.injEq] at hx; obtain ⟨rfl, rfl, rfl, rfl⟩ := hx
        have hrh := hev hop
        rw [hvh] at hrh
        have h1 := hbound k h b.size .sliceAlen hob.1 (by omega)
        rw [← ext_eq]
        exact Gives.same hst (main 0 h.toNat b.size (by simp [Instr.sliceBounds, hrh.int, h1])) (rep_str _)
      · cases hx
    · rename_i lop
      split at hx
      · rename_i k l hvl
        simp only [Option.some.injEq, Prod.mk.injEq] at hx; obtain ⟨rfl, rfl, rfl, rfl⟩ := hx
        have hrl := hev lop
        rw [hvl] at hrl
        have h1 := hbound k l b.size .sliceB hob.1 (by omega)
        rw [← ext_end]
        exact Gives.same hst (main l.toNat b.size b.size (by simp [Instr.sliceBounds, hrl.int, h1])) (rep_str _)
      · cases hx
    · rename_i lop hop
      split at hx
      · rename_i k l k' h hvl hvh
        simp only [Option.some.injEq, Prod.mk.injEq] at hx; obtain ⟨rfl, rfl, rfl, rfl⟩ := hx
        have hrl := hev lop
        rw [hvl] at hrl
        have hrh := hev hop
        rw [hvh] at hrh
        have h1 := hbound k' h b.size .sliceAlen (by omega) (by omega)
        have h2 := hbound k l h.toNat .sliceB hob.1 (by omega)
        rw [← ext_eq]
        exact Gives.same hst (main l.toNat h.toNat b.size (by simp [Instr.sliceBounds, hrl.int, hrh.int, h1, h2])) (rep_str _)
      · cases hx
  · cases hx
theorem RepV.nilI {u : Value} (h : RepV Γ w (.c (.d (.v .nilIface))) u) : u = .nilIface := by
  cases h with | c x u h => cases h; rfl
theorem op_nilI {neg : Bool} {op : BinOp} {t yt : TypeId} {ms : Array (String × TypeId)} {x : Operand} (ho : o.op = .binOp op t x (.const .nilIface) yt) (ht : P.underlying t = some (.interface ms)) (hop : op = if neg then .neq else .eql)
    (hev : ∀ x, RepV Γ w (ev x) (ρ x)) (hst : StoreOk Γ w σ) (hx : xop ev σ id (.nilI neg x (.const .nilIface)) = some (ob, v, σ', nx')) : Gives base Γ w σ id v σ' nx' ((execOp ρ o).run P w) := by
  have hrx := hev x
  have hry := hev (.const .nilIface)
  have ht' : P.underlying t = some (.interface (P.methodsAt t)) := by rw [ht]; simp [Program.methodsAt, ht]
  have hg : ∀ op, (eqGuard op t x (.const .nilIface) .nilIface .nilIface).run P w = .ok () w := fun op => by cases op <;> cases x <;> rfl
  have hg2 : ∀ op t' p, (eqGuard op t x (.const .nilIface) (.iface t' p) .nilIface).run P w = .ok () w := fun op t' p => by cases op <;> rfl
  have main : ρ (.const .nilIface) = .nilIface → (ρ x = .nilIface → (execOp ρ o).run P w = .ok (.value (.bool (!neg))) w) ∧ (∀ t' p, ρ x = .iface t' p → (execOp ρ o).run P w = .ok (.value (.bool neg)) w) := by
    intro hn
    cases neg with
    | true =>
      simp only [if_true] at hop; subst hop
      refine ⟨fun hu => ?_, fun t' p hu => ?_⟩
      · simp only [execOp, ho, hu, hn, Sem.run_bind, hg, run_neq_nil_nil w t ht', Result.andThen_ok, Sem.run_pure, Bool.not_true]
      · simp only [execOp, ho, hu, hn, Sem.run_bind, hg2, run_neq_held_nil w t t' p ht', Result.andThen_ok, Sem.run_pure]
    | false =>
      simp only [Bool.false_eq_true, if_false] at hop; subst hop
      refine ⟨fun hu => ?_, fun t' p hu => ?_⟩
      · simp only [execOp, ho, hu, hn, Sem.run_bind, hg, run_eql_nil_nil w t ht', Result.andThen_ok, Sem.run_pure, Bool.not_false]
      · simp only [execOp, ho, hu, hn, Sem.run_bind, hg2, run_eql_held_nil w t t' p ht', Result.andThen_ok, Sem.run_pure]
  simp only [xop] at hx
  split at hx
  · rename_i hv hv'
    rw [hv] at hrx
    rw [hv'] at hry
    have := (main hry.nilI).1 hrx.nilI
    split at hx <;> simp only [Option.some.injEq, Prod.mk.injEq] at hx <;> obtain ⟨_, rfl, rfl, rfl⟩ := hx <;> exact Gives.same hst this (.c _ _ rfl)
  · rename_i hv hv'
    rw [hv] at hrx
    rw [hv'] at hry
    obtain ⟨t', p, hu⟩ : ∃ t p, ρ x = .iface t p := by
      cases hrx with | c _ _ h => exact h
    have := (main hry.nilI).2 _ _ hu
    split at hx <;> simp only [Option.some.injEq, Prod.mk.injEq] at hx <;> obtain ⟨_, rfl, rfl, rfl⟩ := hx <;> exact Gives.same hst this (.c _ _ rfl)
  · cases hx
theorem sl_cell {I : Nat → Prop} {s n : Nat} {f : Nat → List D} {u : Value} (hn : 0 < n) (hr : RepD I w (.sl s n f) u) : ∃ ad c, u = .slice (some ad) n c ∧ I ad.block ∧ (∀ i, i < n → (f i).length = s) ∧ ∀ i j d, i < n → (f i)[j]? = some d → ∃ x, w.cell? (ad.add (i * s + j)) = some x ∧ RepD I w d x := by
  cases hr with
  | slE => omega
  | sl _ _ _ ad c U h1 h2 h3 h4 h5 => exact ⟨ad, c, rfl, h2, h3, fun i j d hi hd => ⟨_, h4 i j d hi hd, h5 i j d hi hd⟩⟩
theorem flatD_get {f : Nat → List D} {s : Nat} : ∀ (k i j : Nat) (d : D), (∀ m, i ≤ m → m < i + k → (f m).length = s) → (flatD f k i)[j]? = some d → ∃ m q, i ≤ m ∧ m < i + k ∧ q < s ∧ j = (m - i) * s + q ∧ (f m)[q]? = some d
  | 0, i, j, d, _, h => by simp [flatD] at h
  | k + 1, i, j, d, hl, h => by
    rw [flatD] at h
    have h0 := hl i (Nat.le_refl _) (by omega)
    by_cases hj : j < s
    · rw [List.getElem?_append_left (by omega)] at h
      exact ⟨i, j, Nat.le_refl _, by omega, hj, by rw [Nat.sub_self, Nat.zero_mul, Nat.zero_add], h⟩
    · rw [List.getElem?_append_right (by omega), h0] at h
      obtain ⟨m, q, h1, h2, h3, h4, h5⟩ := flatD_get k (i + 1) (j - s) d (fun m a b => hl m (by omega) (by omega)) h
      refine ⟨m, q, by omega, by omega, h3, ?_, h5⟩
      have : m - i = (m - (i + 1)) + 1 := by omega
      rw [this, Nat.add_mul, Nat.one_mul]; omega
theorem op_arrP {t e : TypeId} {x : Operand} {s n : Nat} (ho : o.op = .sliceToArrayPointer t x) (hu : P.underlying t = some (.array n e)) (hn : sizeT P e = some s)
    (hev : ∀ x, RepV Γ w (ev x) (ρ x)) (hst : StoreOk Γ w σ) (hx : xop ev σ id (.arrP s n x) = some (ob, v, σ', nx')) (hob : ob) : Gives base Γ w σ id v σ' nx' ((execOp ρ o).run P w) := by
  have hr := hev x
  simp only [xop] at hx
  split at hx
  · rename_i s' m f hv
    rw [hv] at hr
    split at hx
    · rename_i k hs
      have hs := Nat.eq_of_beq_eq_true hs
      subst hs
      simp only [Option.some.injEq, Prod.mk.injEq] at hx; obtain ⟨rfl, rfl, rfl, rfl⟩ := hx
      cases hr with | c _ u hr =>
      obtain ⟨ad, c, hux, hI, hl, hcell⟩ := sl_cell (w := w) (by omega) hr
      refine Gives.same hst (u := .pointer (some ad)) ?_ (.c _ _ ⟨ad, rfl, hI, fun j d hd => ?_⟩)
      · simp only [execOp, ho, Sem.run_bind, Instr.arrayAt, run_underlying hu, Result.andThen_ok, hux]
        rw [if_neg (by omega)]; rfl
      · obtain ⟨i, q, _, h2, h3, h4, h5⟩ := flatD_get _ _ _ _ (fun i _ hi => hl i (by omega)) hd
        rw [h4, Nat.sub_zero]
        exact hcell i q d (by omega) h5
    · cases hx
  · cases hx
theorem op_bytS {src dst e : TypeId} {x : Operand} (ho : o.op = .convert src dst x) (hs : P.underlying src = some .string) (hd : P.underlying dst = some (.slice e)) (he : P.underlying e = some (.int .u8))
    (hev : ∀ x, RepV Γ w (ev x) (ρ x)) (hst : StoreOk Γ w σ) (hx : xop ev σ id (.bytS x) = some (ob, v, σ', nx')) : Gives base Γ w σ id v σ' nx' ((execOp ρ o).run P w) := by
  have hr := hev x
  simp only [xop] at hx
  split at hx
  · rename_i b hv
    rw [hv] at hr
    simp only [Option.some.injEq, Prod.mk.injEq] at hx; obtain ⟨rfl, rfl, rfl, rfl⟩ := hx
    have hu : ρ x = .string b := by
      generalize ρ x = u at hr
      cases hr with | c _ _ h => cases h with | v _ _ => rfl
    have hrun : (execOp ρ o).run P w = .ok (.value (.slice (some ⟨w.heap.size, 0, none⟩) b.size (grownCap w b.size 0 e))) (Lib.bytesWorld w e b) := by
      simp only [execOp, ho, Sem.run_bind, hu, Lib.run_convert_string_bytes w src dst e b hs hd he, Result.andThen_ok]; rfl
    have hle : CxLe Γ (Γ.also fun k => k = w.heap.size) := CxLe.also _ _
    have hsame : Same Γ.I w (Lib.bytesWorld w e b) := fun k hI => Lib.bytesWorld_at_old w e b k (hst.im k hI)
    refine ⟨_, _, Γ.also fun k => k = w.heap.size, .inl hrun, .c _ _ ?_, hst.keep hle (fun k hI => ?_) hsame (fun k hl => Lib.bytesWorld_at_old w e b k (hst.live_lt hl)) (fun k hl hI => ?_), hle,
      Ext.grow (Γ := Γ) (Γ' := Γ.also fun k => k = w.heap.size) (w := w) (w' := Lib.bytesWorld w e b) (fun _ _ => rfl) (fun _ _ => rfl) (fun _ h => .inl h) (fun k h => h.imp (fun h => h) (fun e => .inl (Nat.le_of_eq e.symm))) rfl rfl rfl (by rw [Lib.bytesWorld_size]; omega) (fun k hk _ => Lib.bytesWorld_at_old w e b k hk) _ (fun k hk => .inl (live_also.1 hk)), fun _ _ => rfl, .inl ⟨rfl, rfl⟩⟩
    · refine .sl _ _ _ _ _ (fun i j => .int .u8 (b.data.toList.getD i 0).toNat) (grownCap_ge w b.size 0 e) (.inr rfl) (fun i hi => rfl) (fun i j d hi hd => ?_) (fun i j d hi hd => ?_)
      · have hj : j = 0 := by
          rcases j with _ | j
          · rfl
          · simp at hd
        subst hj
        have e1 : (⟨w.heap.size, 0, none⟩ : Addr).add (i * 1 + 0) = ⟨w.heap.size, i, none⟩ := by
          rw [Nat.mul_one, Nat.add_zero]
          unfold Addr.add
          by_cases h0 : i = 0
          · rw [if_pos h0, h0]
          · rw [if_neg h0]; simp
        rw [e1]
        exact Lib.bytesWorld_cell w e b i hi
      · have hj : j = 0 := by
          rcases j with _ | j
          · rfl
          · simp at hd
        subst hj
        simp only [List.getElem?_cons_zero, Option.some.injEq] at hd
        subst hd
        exact .v _ rfl
    · rcases hI with hI | rfl
      · have := hst.im k hI; rw [Lib.bytesWorld_size]; omega
      · rw [Lib.bytesWorld_size]; omega
    · rcases hI with hI | rfl
      · exact hst.not_live hI hl
      · exact Nat.lt_irrefl _ (hst.live_lt hl)
  · cases hx
theorem op_slcP {t e : TypeId} {x : Operand} {s n : Nat} (ho : o.op = .slice t x none none none) (hu : P.underlying t = some (.array n e)) (hn : sizeT P e = some s)
    (hev : ∀ x, RepV Γ w (ev x) (ρ x)) (hst : StoreOk Γ w σ) (hx : xop ev σ id (.slcP s n x) = some (ob, v, σ', nx')) : Gives base Γ w σ id v σ' nx' ((execOp ρ o).run P w) := by
  have hr := hev x
  simp only [xop] at hx
  split at hx
  · rename_i row hv
    rw [hv] at hr
    split at hx
    · rename_i hle
      have hle := Nat.le_of_ble_eq_true hle
      simp only [Option.some.injEq, Prod.mk.injEq] at hx; obtain ⟨rfl, rfl, rfl, rfl⟩ := hx
      obtain ⟨ad, hux, hI, hcell⟩ : RepP Γ.I w row (ρ x) := by cases hr with | c _ _ h => exact h
      have h0 : ad.add 0 = ad := by cases ad; rfl
      have hrun : (execOp ρ o).run P w = .ok (.value (.slice (some ad) n n)) w := by
        by_cases hz : n = 0
        · subst hz; simp [execOp, ho, Instr.sliceAt, run_underlying hu, hux, Instr.sliceBounds, run_sizeT hn, Instr.sureAddr]
        · simp [execOp, ho, Instr.sliceAt, run_underlying hu, hux, Instr.sliceBounds, run_sizeT hn, Instr.sureAddr, h0]
      have hidx : ∀ i j d, i < n → ((row.drop (i * s)).take s)[j]? = some d → row[i * s + j]? = some d := fun i j d hi hd => by
        rw [List.getElem?_take] at hd
        split at hd
        · rw [List.getElem?_drop] at hd; exact hd
        · cases hd
      refine Gives.same hst hrun (.c _ _ (.sl _ _ _ _ _ (fun i j => (w.cell? (ad.add (i * s + j))).getD undef) (Nat.le_refl _) hI (fun i hi => ?_) (fun i j d hi hd => ?_) (fun i j d hi hd => ?_)))
      · have : (i + 1) * s ≤ n * s := Nat.mul_le_mul_right s hi
        rw [Nat.add_mul, Nat.one_mul] at this
        rw [List.length_take, List.length_drop]; omega
      · obtain ⟨y, hy, _⟩ := hcell _ _ (hidx i j d hi hd)
        rw [hy]; rfl
      · obtain ⟨y, hy, hyr⟩ := hcell _ _ (hidx i j d hi hd)
        rw [hy]; exact hyr
    · cases hx
  · cases hx
theorem op_strB {src dst e : TypeId} {x : Operand} (ho : o.op = .convert src dst x) (hs : P.underlying src = some (.slice e)) (hd : P.underlying dst = some .string) (he : P.underlying e = some (.int .u8))
    (hev : ∀ x, RepV Γ w (ev x) (ρ x)) (hst : StoreOk Γ w σ) (hx : xop ev σ id (.strB x) = some (ob, v, σ', nx')) (hob : ob) : Gives base Γ w σ id v σ' nx' ((execOp ρ o).run P w) := by
  have hr := hev x
  simp only [xop] at hx
  split at hx
  · rename_i s n f hv
    rw [hv] at hr
    split at hx
    · rename_i h1 h2
      have h1 := Nat.eq_of_beq_eq_true h1
      have h2 := Nat.eq_of_beq_eq_true h2
      subst h1; subst h2
      split at hx
      · rename_i a hf
        simp only [Option.some.injEq, Prod.mk.injEq] at hx; obtain ⟨rfl, rfl, rfl, rfl⟩ := hx
        cases hr with | c _ u hr =>
        obtain ⟨ad, c, hux, hI, hl, hcell⟩ := sl_cell (w := w) (by omega) hr
        obtain ⟨y, hy, hyr⟩ := hcell 0 0 (.v (.int .u8 a)) (by omega) (by rw [hf]; rfl)
        have hy' : w.cell? ad = some (.int .u8 a) := by
          cases hyr
          rw [Nat.zero_mul, Nat.add_zero] at hy
          have e0 : ad.add 0 = ad := by cases ad; rfl
          rwa [e0] at hy
        refine Gives.same hst (u := .string ⟨#[UInt8.ofNat a.toNat]⟩) ?_ (rep_str _)
        have hb := run_convert_bytes_back (P := P) w src dst e ad c [UInt8.ofNat a.toNat] hs he hd (fun j hj => by
          have hj0 : j = 0 := Nat.lt_one_iff.1 hj
          subst hj0
          have e0 : ad.add 0 = ad := by cases ad; rfl
          have h8 : (UInt8.ofNat a.toNat).toNat = a.toNat := UInt8.toNat_ofNat_of_lt (show a.toNat < 256 by omega)
          rw [e0, hy']
          simp only [List.getElem_cons_zero, h8]
          congr 2; omega)
        simp only [execOp, ho, Sem.run_bind, hux, Sem.run_pure]
        exact (congrArg (fun r => Result.andThen r _) hb)
      · cases hx
    · cases hx
  · cases hx
theorem cellsOf_some {R : Type} : ∀ (xs : List Operand) (k : List C → Option R) (r : R), cellsOf ev xs k = some r → ∃ cs, cs.length = xs.length ∧ (∀ (j : Nat) x c, xs[j]? = some x → cs[j]? = some c → ev x = .c c) ∧ k cs = some r
  | [], k, r, h => ⟨[], rfl, fun j x c hx => by simp at hx, h⟩
  | x :: xs, k, r, h => by
    simp only [cellsOf] at h
    split at h
    · rename_i c hc
      obtain ⟨cs, h1, h2, h3⟩ := cellsOf_some xs _ r h
      refine ⟨c :: cs, by simp [h1], fun j y d hy hd => ?_, h3⟩
      cases j with
      | zero => simp at hy hd; subst hy; subst hd; exact hc
      | succ j => exact h2 j y d (by simpa using hy) (by simpa using hd)
    · cases h
theorem op_litP {t e : TypeId} {len : Nat} {parts : Array (Nat × Operand)} {z : List Value} {xs : List Operand} (ho : o.op = .buildSlice t len parts) (hu : P.underlying t = some (.slice e)) (hn : sizeT P e = some 1) (hz : zeroOf P e = some z)
    (hord : inOrder parts.toList 0 = some xs) (hlen : xs.length = len) (hbig : len * 1 ≤ 16777216)
    (hev : ∀ x, RepV Γ w (ev x) (ρ x)) (hst : StoreOk Γ w σ) (hid : Γ.ρ id = none) (hbase : base ≤ id) (hx : xop ev σ id (.litP xs) = some (ob, v, σ', nx')) : Gives base Γ w σ id v σ' nx' ((execOp ρ o).run P w) := by
  obtain ⟨i, zv, hi, hzv, hzc, h1, hsz⟩ := zeroOf_spec hz
  simp only [xop] at hx
  obtain ⟨cs, hcl, hcs, hk⟩ := cellsOf_some _ _ _ hx
  obtain ⟨hol, hoget⟩ := inOrder_get _ _ _ hord
  have hone : ∀ (j : Nat) x, xs[j]? = some x → ∃ c, cs[j]? = some c ∧ RepC Γ w c (ρ x) ∧ (ρ x).cells = #[ρ x] := fun j x hj => by
    have hjl : j < cs.length := by rw [hcl]; exact (List.getElem?_eq_some_iff.1 hj).1
    have e1 := hcs j x cs[j] hj (List.getElem?_eq_getElem hjl)
    have hr := hev x
    rw [e1] at hr
    cases hr with | c _ _ hr => exact ⟨_, List.getElem?_eq_getElem hjl, hr, one_cells (repC_one hr)⟩
  have hps : ∀ (j : Nat) q, (parts.toList.map fun (i, x) => (i, ρ x))[j]? = some q → q.1 = 0 + j ∧ q.2.cells.size = 1 := fun j q hq => by
    simp only [List.getElem?_map, Option.map_eq_some_iff] at hq
    obtain ⟨⟨i, x⟩, hp, rfl⟩ := hq
    obtain ⟨h3, h4⟩ := hoget j _ hp
    obtain ⟨c, _, _, h5⟩ := hone j x h4
    exact ⟨h3, by rw [h5]; rfl⟩
  have hplen : (parts.toList.map fun (i, x) => (i, ρ x)).length = len := by simp only [List.length_map]; rw [← hol, hlen]
  obtain ⟨us', hf1, hf2, _, hf4⟩ := fill_rows (s := 1) (parts.toList.map fun (i, x) => (i, ρ x)) 0 ((Array.range (len * 1)).map ((if len * 1 = 0 then #[] else zv.cells)[· % (if len * 1 = 0 then #[] else zv.cells).size]!)) hps (by simp only [Nat.zero_add, hplen]; simp)
  have hus : us'.size = len * 1 := by rw [hf2]; simp
  have hrun : (execOp ρ o).run P w = .ok (.value (.slice (some ⟨w.heap.size, 0, none⟩) len len)) (w.alloc (.cells us' e)) := by
    have hparts : (parts.map fun (i, x) => (i, ρ x)).toList = parts.toList.map fun (i, x) => (i, ρ x) := by simp
    simp only [execOp, ho, Instr.buildSlice, Sem.run_bind, run_underlying hu, Result.andThen_ok, run_sizeT hn]
    rw [if_neg (by omega)]
    by_cases h0 : len * 1 = 0
    · rw [if_pos h0] at hf1
      rw [if_pos h0]
      simp only [Sem.run_bind, Sem.run_pure, Result.andThen_ok, hparts, hf1, newRow, run_newObj, World.alloc_eq]
    · rw [if_neg h0] at hf1
      rw [if_neg h0]
      simp only [Sem.run_bind, Sem.run_pure, Result.andThen_ok, run_zeroValue' hi hzv, hparts, hf1, newRow, run_newObj, World.alloc_eq]
  simp only [Option.some.injEq, Prod.mk.injEq] at hk; obtain ⟨_, rfl, rfl, rfl⟩ := hk
  have hb := alloc_box (base := base) hst hid hbase e us' cs (by rw [hus, hcl, hlen, Nat.mul_one]) (fun j c hc => by
    have hjx : j < xs.length := by rw [← hcl]; exact (List.getElem?_eq_some_iff.1 hc).1
    obtain ⟨c', h3, h4, h5⟩ := hone j xs[j] (List.getElem?_eq_getElem hjx)
    rw [hc] at h3; cases h3
    have hip : j < parts.toList.length := by rw [← hol]; exact hjx
    obtain ⟨_, hq2⟩ := hoget j _ (List.getElem?_eq_getElem hip)
    have hq : (parts.toList.map fun (i, x) => (i, ρ x))[j]? = some (parts.toList[j].1, ρ parts.toList[j].2) := by rw [List.getElem?_map, List.getElem?_eq_getElem hip]; rfl
    have e2 : parts.toList[j].2 = xs[j] := by
      rw [List.getElem?_eq_getElem hjx] at hq2; injection hq2 with hq2; exact hq2.symm
    have h6 := hf4 j 0 _ hq (by omega)
    rw [Nat.zero_add, Nat.mul_one, Nat.add_zero] at h6
    refine ⟨ρ xs[j], ?_, h4⟩
    rw [h6]
    simp only [e2, h5]; rfl)
  exact ⟨_, _, _, .inl hrun, .c _ _ ⟨_, upd_ρ_same, by rw [hcl, hlen]⟩, hb.1, CxLe.upd _ _ _ hid, hb.2, fun i hi => upd_ρ hi, .inr rfl⟩
end
end Go.Pw
set_option linter.unusedVariables false
namespace Go.Pw
open Go Go.RowKit
section
variable {P : Program} {base : Nat} {Γ : Cx} {w : World} {σ σ' : Store} {id nx' : Nat} {o : Oper} {ρ : Operand → Value} {ev : Operand → V} {ob : Prop} {v : V}
theorem xop_sound {own : Bool} (hcn : ρ (.const (.slice none 0 0)) = .slice none 0 0) (hev : ∀ x, RepV Γ w (ev x) (ρ x)) (hst : StoreOk Γ w σ) (hid : Γ.ρ id = none) (hbase : base ≤ id)
    (hx : xop ev σ id (lowOp P own o) = some (ob, v, σ', nx')) (hob : ob) : Gives base Γ w σ id v σ' nx' ((execOp ρ o).run P w) := by
  have hx := low_xop hx
  rcases h : lowOp' P own o with _ | lo
  · rw [h] at hx; simp [xop] at hx
  · rw [h] at hx
    simp only [Option.getD_some] at hx
    unfold lowOp' at h
    split at h
    · rename_i x hop; cases h; exact op_mv (.inl hop) hev hst hx
    · rename_i x hop; cases h; exact op_mv (.inr hop) hev hst hx
    · rename_i x hop; cases h; exact op_nilc hop hev hst hx
    · rename_i c a b hop; cases h; exact op_pick hop hev hst hx
    · rename_i e hop
      obtain ⟨z, hz, rfl⟩ := Option.map_eq_some_iff.1 h
      exact op_alloc hop hz hst hid hbase hx
    · rename_i e x hop; cases h
      split at hx
      · exact op_boxS hop hev hst hx
      · exact op_box hop hev hst hid hbase hx
    · rename_i t parts hop
      simp only [Option.bind_eq_bind, Option.bind_eq_some_iff] at h
      obtain ⟨z, hz, h⟩ := h
      split at h
      · rename_i fs hu
        split at h
        · rename_i hall
          obtain ⟨lp, hlp, rfl⟩ := Option.map_eq_some_iff.1 h
          exact op_build hop hz (.inl ⟨fs, hu, List.all_eq_true.1 hall, hlp⟩) hev hst hx
        · cases h
      · rename_i m e hu
        simp only [Option.bind_eq_some_iff] at h
        obtain ⟨n, hn, h⟩ := h
        cases h
        exact op_build hop hz (.inr ⟨m, e, n, hu, hn, rfl⟩) hev hst hx
      · cases h
    · rename_i t len parts hop
      split at h
      · rename_i e hu
        simp only [Option.bind_eq_bind, Option.bind_eq_some_iff] at h
        obtain ⟨s, hn, z, hz, xs, hxs, h⟩ := h
        split at h
        · rename_i hc
          split at h
          · split at h
            · rename_i hs1
              subst hs1
              cases h
              exact op_litP hop hu hn hz hxs hc.1 hc.2.1 hev hst hid hbase hx
            · cases h
          · cases h
            exact op_lit hop hu hn hz hxs hc.1 hc.2.1 hc.2.2.1 hev hst hid hbase hx
        · cases h
      · cases h
    · rename_i t a hop
      simp only [Option.bind_eq_bind, Option.bind_eq_some_iff] at h
      obtain ⟨g, hg, n, hn, h⟩ := h
      split at h
      · rename_i hc
        cases h
        exact op_load hop hg hn hc hev hst hx hob
      · cases h
    · rename_i t a x hop
      obtain ⟨n, hn, rfl⟩ := Option.map_eq_some_iff.1 h
      exact op_store hop hn hev hst hx hob
    · rename_i op t x y yt hop
      split at h
      · cases h
        split at hx
        · exact op_binW hop hev hst hx
        · exact op_bin hop hev hst hx hob
      · rename_i hu
        split at h
        · cases h; exact op_eqB (neg := false) hop hu rfl hev hst hx
        · cases h; exact op_eqB (neg := true) hop hu rfl hev hst hx
        · cases h
      · rename_i hu
        split at h
        · cases h; exact op_eqS (neg := false) hop hu rfl hev hst hx
        · cases h; exact op_eqS (neg := true) hop hu rfl hev hst hx
        · cases h; exact op_catS hop hu hev hst hx hob
        · cases h
      · rename_i hu
        split at h
        · cases h; exact op_nilI (neg := false) hop hu rfl hev hst hx
        · cases h; exact op_nilI (neg := true) hop hu rfl hev hst hx
        · cases h
      · split at h
        · cases h; exact op_cbin hop hev hst hx hob
        · cases h; exact op_cbin hop hev hst hx hob
        · cases h
      · rename_i hu
        split at h
        · cases h; exact op_isnil (neg := false) hop hu rfl hcn hev hst hx hob
        · cases h; exact op_isnil (neg := true) hop hu rfl hcn hev hst hx hob
        · cases h
      · rename_i fs hu
        simp only [Option.bind_eq_bind, Option.bind_eq_some_iff] at h
        obtain ⟨ks, hks, h⟩ := h
        split at h
        · rename_i hc
          split at h
          · cases h; exact op_eqA (neg := false) hop hks (by simp [aggT, hu]) hc rfl hev hst hx
          · cases h; exact op_eqA (neg := true) hop hks (by simp [aggT, hu]) hc rfl hev hst hx
          · cases h
        · cases h
      · rename_i fs hu
        simp only [Option.bind_eq_bind, Option.bind_eq_some_iff] at h
        obtain ⟨ks, hks, h⟩ := h
        split at h
        · rename_i hc
          split at h
          · cases h; exact op_eqA (neg := false) hop hks (by simp [aggT, hu]) hc rfl hev hst hx
          · cases h; exact op_eqA (neg := true) hop hks (by simp [aggT, hu]) hc rfl hev hst hx
          · cases h
        · cases h
      · cases h
    · rename_i op t x hop; cases h; exact op_un hop hev hst hx hob
    · rename_i src dst x hop
      split at h
      · rename_i ks k hs hd
        cases h; exact op_conv hop hs hd hev hst hx hob
      · rename_i ks hs hd
        cases h; exact op_toF hop hs hd hev hst hx hob
      · rename_i hs hd
        cases h; exact op_toI hop hs hd hev hst hx hob
      · rename_i e hs hd
        split at h
        · rename_i he; cases h; exact op_strB hop hs hd he hev hst hx hob
        · cases h
      · rename_i e hs hd
        split at h
        · rename_i he; cases h; exact op_bytS hop hs hd he hev hst hx
        · cases h
      · cases h
    · rename_i f first caps hop
      split at h
      · rename_i hf; cases h; exact op_mkfn hop hf hev hst hx
      · split at h
        · rename_i x h1 h2; cases h; exact op_mkfnB hop h1 h2 hev hst hx
        · cases h
    · rename_i t hop
      split at h
      · obtain ⟨m, _, rfl⟩ := Option.map_eq_some_iff.1 h
        exact op_mkmap hop hst hid hbase hx
      · cases h
    · rename_i t m k x hop
      split at h
      · rename_i ky e hu
        split at h
        · rename_i hk
          obtain ⟨n, _, rfl⟩ := Option.map_eq_some_iff.1 h
          exact op_mset hop hu hk hev hst hx
        · cases h
      · cases h
    · rename_i t m k ok hop
      split at h
      · rename_i ky e hu
        split at h
        · rename_i hk
          obtain ⟨n, hn, rfl⟩ := Option.map_eq_some_iff.1 h
          exact op_mget hop hu hk hn hev hst hx
        · cases h
      · cases h
    · rename_i t l c hop
      split at h
      · rename_i e hu
        simp only [Option.bind_eq_bind, Option.bind_eq_some_iff] at h
        obtain ⟨s, hn, b, hb, z, hz, h⟩ := h
        split at h
        · split at h
          · rename_i hc
            obtain ⟨rfl, h1, h2, h3⟩ := hc
            cases h
            exact op_make hop hu hb hz ⟨rfl, rfl⟩ h2 h3 hev hst hid hbase hx hob
          · cases h
        · split at h
          · rename_i hc
            obtain ⟨rfl, rfl, h1, h2, h3⟩ := hc
            cases h
            exact op_make hop hu hb hz ⟨rfl, rfl⟩ h2 h3 hev hst hid hbase hx hob
          · cases h
        · cases h
      · cases h
    · rename_i t x lo hi hop
      split at h
      · rename_i e hu
        obtain ⟨s, hn, rfl⟩ := Option.map_eq_some_iff.1 h
        exact op_slc hop hu hn hev hst hid hbase hx hob
      · rename_i hu; cases h; exact op_slcS hop hu hev hst hx hob
      · rename_i n e hu
        split at h
        · obtain ⟨s, hn, rfl⟩ := Option.map_eq_some_iff.1 h
          exact op_slcP hop hu hn hev hst hx
        · cases h
      · cases h
    · rename_i t x hh mm hop
      split at h
      · rename_i e hu
        obtain ⟨s, hn, rfl⟩ := Option.map_eq_some_iff.1 h
        exact op_clip hop hu hn hev hst hx hob
      · cases h
    · rename_i t x ll hh mm hop
      split at h
      · rename_i e hu
        obtain ⟨s, hn, rfl⟩ := Option.map_eq_some_iff.1 h
        exact op_slc3 hop hu hn hev hst hx hob
      · cases h
    · rename_i t x f hop
      split at h
      · rename_i fs hu
        simp only [Option.bind_eq_bind, Option.bind_eq_some_iff] at h
        obtain ⟨fd, hf, n, hn, h⟩ := h
        split at h
        · cases h
        · rename_i h0
          cases h
          exact op_fld hop hu hf hn h0 hev hst hx
      · cases h
    · rename_i t x i hop
      split at h
      · rename_i e hu
        obtain ⟨s, hn, rfl⟩ := Option.map_eq_some_iff.1 h
        exact op_idx hop hu hn hev hst hx hob
      · rename_i n e hu
        obtain ⟨s, hn, rfl⟩ := Option.map_eq_some_iff.1 h
        exact op_idxA hop hu hn hev hst hx hob
      · cases h
    · rename_i t x f hop
      split at h
      · rename_i fs hu
        simp only [Option.bind_eq_bind, Option.bind_eq_some_iff] at h
        obtain ⟨fd, hf, g, hg, n, hn, h⟩ := h
        cases h
        exact op_part hop hu hf hg hn hev hst hx
      · cases h
    · rename_i t x i hop
      split at h
      · rename_i n e hu
        simp only [Option.bind_eq_bind, Option.bind_eq_some_iff] at h
        obtain ⟨g, hg, s, hs, h⟩ := h
        cases h
        exact op_index hop hu hg hs hev hst hx hob
      · rename_i hu
        cases h; exact op_indexS hop hu hev hst hx hob
      · cases h
    · rename_i t x hop
      split at h
      · rename_i n e hu
        obtain ⟨s, hn, rfl⟩ := Option.map_eq_some_iff.1 h
        exact op_arrP hop hu hn hev hst hx hob
      · cases h
    · rename_i x i hop; cases h; exact op_ext hop hev hst hx
    · rename_i c hop
      split at h
      · cases h; simp [xop] at hx
      · rename_i hc
        split at h
        · rename_i x t hargs htys
          split at h
          · rename_i e hu; cases h; exact op_len hop hc hargs htys hu hev hst hx
          · rename_i hu; cases h; exact op_lenS hop hc hargs htys hu hev hst hx
          · rename_i hu; cases h; exact op_lenM hop hc hargs htys hu hev hst hx
          · cases h
        · cases h
      · rename_i hc
        split at h
        · rename_i x y t t' hargs htys
          split at h
          · rename_i htt
            subst htt
            split at h
            · rename_i e hu
              simp only [Option.bind_eq_bind, Option.bind_eq_some_iff] at h
              obtain ⟨s, hn, b, hb, z, hz, h⟩ := h
              split at h
              · rename_i hcc
                cases h
                exact op_append hop hc hargs htys hu hn hb hz hcc.1 hcc.2.1 hcc.2.2 hev hst hid hbase hx hob
              · cases h
            · cases h
          · split at h
            · rename_i e hu hu'
              simp only [Option.bind_eq_bind, Option.bind_eq_some_iff] at h
              obtain ⟨s, hn, b, hb, z, hz, h⟩ := h
              split at h
              · rename_i hcc
                cases h
                exact op_appendN hop hc hargs htys hu hu' hb hz hcc.1 hcc.2.1 hcc.2.2 hev hst hid hbase hx hob
              · cases h
            · cases h
        · cases h
      · rename_i hc
        split at h
        · rename_i x t hargs htys
          split at h
          · rename_i e hu; cases h; exact op_cap hop hc hargs htys hu hev hst hx
          · cases h
        · cases h
      · rename_i hc
        split at h
        · rename_i hargs; cases h; exact op_cplx hop hc hargs hev hst hx
        · cases h
      · rename_i hc
        split at h
        · rename_i hargs; cases h; exact op_reC hop hc hargs hev hst hx
        · cases h
      · rename_i hc
        split at h
        · rename_i hargs; cases h; exact op_imC hop hc hargs hev hst hx
        · cases h
      · rename_i hc; cases h; exact op_mm (isMax := false) hop hc hev hst hx
      · rename_i hc; cases h; exact op_mm (isMax := true) hop hc hev hst hx
      · cases h
    · cases h
end
end Go.Pw
set_option linter.unusedVariables false
namespace Go.Pw
open Go Go.RowKit
def FW (ro : Option Nat) : Fence := { Fence.wide with round := ro }
def mkD (D : Nat) : Deferred := { target := .collected D, args := #[] }
structure Conc (N B0 base : Nat) (Γ : Cx) (w : World) (st : St) (a : Act) : Prop where
  size : a.tmps.size = N
  env : ∀ t, RepV Γ w (lk st.env t) (a.tmps.getD t undef)
  ok : StoreOk Γ w st.σ
  free : ∀ id, st.nx ≤ id → Γ.ρ id = none
  le : base ≤ st.nx
  dfs : ∃ Ds : List Nat, a.defers = Ds.map mkD ∧ (Ds.Nodup ∧ B0 ≤ w.heap.size) ∧ ∀ D ∈ Ds, B0 ≤ D ∧ ¬ Γ.I D ∧ ¬ Live Γ st.σ D ∧ w.heap[D]? = some (.deferred (some []))
def Post (N B0 base : Nat) (Γ : Cx) (w : World) (σ : Store) (Q : Exit → St → Prop) : Exit → Act → World → Prop :=
  fun e a' w' => ∃ Γ' st', Conc N B0 base Γ' w' st' a' ∧ Ext base Γ w σ Γ' w' st'.σ ∧ Q e st'
section
variable {P : Program} {N B0 base : Nat} {Γ : Cx} {w : World} {st : St} {a : Act}
theorem rep_cplx (k : FloatKind) (a b : Nat) : RepV Γ w (evo st.env (.const (.complex k a b))) (.complex k a b) := by
  by_cases h : k = .f64 ∧ a = 0 ∧ b = 0
  · obtain ⟨rfl, rfl, rfl⟩ := h
    exact .c _ _ (show RepC Γ w (.cx 0 0) _ from ⟨_, _, rfl, isF_zero, isF_zero⟩)
  · have e : evo st.env (.const (.complex k a b)) = .c (.d (.v (.complex k a b))) := by
      show evoC _ = _
      unfold evoC
      split <;> simp_all
    rw [e]; exact rep_exact rfl
theorem rep_const (v : Value) : RepV Γ w (evo st.env (.const v)) v := by
  cases v with
  | bool b => cases b <;> exact .c _ _ rfl
  | agg xs =>
    simp only [evo, evoC]
    split
    · rename_i h
      refine .agg _ _ (by simp) (fun i c u hc hu => ?_)
      simp only [List.getElem?_map, Option.map_eq_some_iff] at hc
      obtain ⟨x, hx, rfl⟩ := hc
      have hx' : xs[i]? = some x := by simpa using hx
      rw [hx'] at hu
      simp only [Option.some.injEq] at hu
      subst hu
      exact .v _ (List.all_eq_true.1 h _ (List.mem_of_getElem? hx))
    · exact .unk _
  | tuple xs => exact .unk _
  | complex k a b => exact rep_cplx k a b
  | _ => exact rep_exact rfl
theorem Conc.ev (h : Conc N B0 base Γ w st a) (x : Operand) : RepV Γ w (evo st.env x) (a.eval x) := by
  cases x with
  | tmp t => exact h.env t
  | const v => exact rep_const v
  | global g => exact .unk _
  | func f => exact .c _ _ ⟨([] : List Nat), rfl, (fun j i h => by simp at h), rfl⟩
theorem lk_cons {env : List (Nat × V)} {d t : Nat} {v : V} : lk ((d, v) :: env) t = if d = t then v else lk env t := by
  simp only [lk]
  by_cases h : d = t
  · subst h; simp [Nat.beq_refl]
  · rw [if_neg h]
    cases hb : Nat.beq d t
    · rfl
    · exact absurd (Nat.eq_of_beq_eq_true hb) h
def putE (env : List (Nat × V)) (dst : Option Nat) (v : V) : List (Nat × V) :=
  match dst with
  | some d => (d, v) :: env
  | none => env
theorem Conc.put {Γ' : Cx} {w' : World} {σ' : Store} {nx' : Nat} {v : V} {u : Value} {dst : Option Nat} (h : Conc N B0 base Γ w st a) (hd : ∀ d, dst = some d → d < N) (hv : RepV Γ' w' v u)
    (hst : StoreOk Γ' w' σ') (hle : CxLe Γ Γ') (hext : Ext base Γ w st.σ Γ' w' σ') (hρ : ∀ i, i ≠ st.nx → Γ'.ρ i = Γ.ρ i) (hnx : (nx' = st.nx ∧ Γ'.ρ st.nx = Γ.ρ st.nx) ∨ nx' = st.nx + 1) :
    Conc N B0 base Γ' w' ⟨putE st.env dst v, σ', nx'⟩ (a.put dst u) := by
  have hs := hext.same h.ok
  refine ⟨?_, fun t => ?_, hst, fun id hid => ?_, ?_, ?_⟩
  · cases dst <;> simp [Act.put, h.size]
  · cases dst with
    | none => exact (h.env t).mono hle hs
    | some d =>
      simp only [putE, Act.put, lk_cons]
      have hdN := hd d rfl
      by_cases hdt : d = t
      · subst hdt
        rw [if_pos rfl, Array.getD_eq_getD_getElem?, Array.getElem?_setIfInBounds_self_of_lt (by rw [h.size]; exact hdN)]
        exact hv
      · rw [if_neg hdt, Array.getD_eq_getD_getElem?, Array.getElem?_setIfInBounds_ne hdt, ← Array.getD_eq_getD_getElem?]
        exact (h.env t).mono hle hs
  · rcases hnx with ⟨rfl, h1⟩ | rfl
    · by_cases he : id = st.nx
      · subst he; rw [h1]; exact h.free _ (Nat.le_refl _)
      · rw [hρ id he]; exact h.free id hid
    · have hid : st.nx + 1 ≤ id := hid
      rw [hρ id (by omega)]; exact h.free id (by omega)
  · have := h.le
    rcases hnx with ⟨rfl, _⟩ | rfl
    · exact this
    · exact Nat.le_succ_of_le this
  · obtain ⟨Ds, h1, h2, h3⟩ := h.dfs
    refine ⟨Ds, by cases dst <;> exact h1, ⟨h2.1, Nat.le_trans h2.2 hext.size⟩, fun D hD => ?_⟩
    obtain ⟨h4, h5, h6, h7⟩ := h3 D hD
    have hlt : D < w.heap.size := (Array.getElem?_eq_some_iff.1 h7).1
    refine ⟨h4, fun hi => ?_, fun hl => ?_, (hext.keep D hlt h6).trans h7⟩
    · rcases hext.new D hi with h8 | h8 | h8
      · exact h5 h8
      · omega
      · exact h6 h8
    · rcases hext.live D hl with h8 | h8
      · exact h6 h8
      · omega
end
def Ops (P : Program) (N base : Nat) (ops : List LIns) (st : St) (K : St → Prop) : Prop :=
  ∀ (ro : Option Nat) (n B0 : Nat) (own : List Nat) (opsA : Array Oper) (idx : List Nat) (os : List Oper), lowList P N own opsA os = some ops → idx.map (opsA[·]?) = os.map some →
    ∀ (Γ0 Γ : Cx) (w0 w : World) (σ0 : Store) (a : Act), Conc N B0 base Γ w st a → Ext base Γ0 w0 σ0 Γ w st.σ →
      wpOpsIn (FW ro) n P opsA (Post N B0 base Γ0 w0 σ0 fun e st' => e = .normal ∧ K st') idx a w
section
variable {P : Program} {N base : Nat} {st : St} {K : St → Prop} {rest : List LIns} {i : LIns}
theorem lowList_cons {own : List Nat} {opsA : Array Oper} {os : List Oper} (h : lowList P N own opsA os = some (i :: rest)) :
    ∃ o os', os = o :: os' ∧ lowIns P N own opsA o = some i ∧ lowList P N own opsA os' = some rest := by
  cases os with
  | nil => simp [lowList] at h
  | cons o os' =>
    simp only [lowList, Option.bind_eq_bind, Option.bind_eq_some_iff, Option.some.injEq, List.cons.injEq] at h
    obtain ⟨i', hi, r, hr, rfl, rfl⟩ := h
    exact ⟨o, os', rfl, hi, hr⟩
theorem lowIns_some {own : List Nat} {opsA : Array Oper} {o : Oper} (h : lowIns P N own opsA o = some i) :
    (∃ b, i.op = lowOp P b o) ∧ i.dst = o.dst ∧ (∀ d, o.dst = some d → d < N) ∧ ((o.guard = none ∧ i.guard = none) ∨ ∃ j want t, o.guard = some (j, want) ∧ (opsA[j]?).bind (·.dst) = some t ∧ i.guard = some (t, want)) := by
  have hd : ∀ g (b : Bool), (if (match o.dst with | some d => decide (d < N) | none => true) = true then some (LIns.mk o.dst (lowOp P b o) g) else none) = some i →
      (∃ b, i.op = lowOp P b o) ∧ i.dst = o.dst ∧ (∀ d, o.dst = some d → d < N) ∧ i.guard = g := fun g b h => by
    by_cases hd : (match o.dst with | some d => decide (d < N) | none => true) = true
    · rw [if_pos hd] at h
      simp only [Option.some.injEq] at h
      subst h
      exact ⟨⟨b, rfl⟩, rfl, fun d hd' => by rw [hd'] at hd; simpa using hd, rfl⟩
    · rw [if_neg hd] at h; cases h
  unfold lowIns at h
  cases hg : o.guard with
  | none =>
    rw [hg] at h
    obtain ⟨h1, h2, h3, h4⟩ := hd none _ h
    exact ⟨h1, h2, h3, .inl ⟨rfl, h4⟩⟩
  | some p =>
    obtain ⟨j, want⟩ := p
    rw [hg] at h
    simp only [Option.bind_eq_bind, Option.bind_eq_some_iff] at h
    obtain ⟨g, hg', h⟩ := h
    obtain ⟨t, ht, rfl⟩ := Option.map_eq_some_iff.1 hg'
    obtain ⟨h1, h2, h3, h4⟩ := hd _ _ h
    exact ⟨h1, h2, h3, .inr ⟨j, want, t, rfl, ht, h4⟩⟩
theorem Ops.nil (h : K st) : Ops P N base [] st K := by
  intro ro n B0 own opsA idx os hl hidx Γ0 Γ w0 w σ0 a hc hext
  have hos : os = [] := by
    cases os with
    | nil => rfl
    | cons o os => simp only [lowList, Option.bind_eq_bind, Option.bind_eq_some_iff] at hl; obtain ⟨_, _, _, _, h⟩ := hl; cases h
  subst hos
  have : idx = [] := by simpa using hidx
  subst this
  exact ⟨Γ, st, hc, hext, rfl, h⟩
theorem defer_lowOp {own : Bool} {o : Oper} {σ : Store} {nx : Nat} {ev : Operand → V} {r : Res} (h : xop ev σ nx (lowOp P own o) = some r) : ∀ c, o.op ≠ .defer c := fun c hc => by
  have : lowOp P own o = .bad := by simp [lowOp, lowOp', setCall, hc]
  rw [this] at h; simp [xop] at h
theorem Conc.slot_tru {N B0 base : Nat} {Γ : Cx} {w : World} {a : Act} {t : Nat} (hc : Conc N B0 base Γ w st a) (h : lk st.env t = .c .tru) : a.tmps.getD t undef = .bool true := by
  have := hc.env t; rw [h] at this; exact this.tru
theorem Conc.slot_fls {N B0 base : Nat} {Γ : Cx} {w : World} {a : Act} {t : Nat} (hc : Conc N B0 base Γ w st a) (h : lk st.env t = .c .fls) : a.tmps.getD t undef = .bool false := by
  have := hc.env t; rw [h] at this; exact this.fls
def Runs (st : St) (i : LIns) : Prop := i.guard = none ∨ ∃ t want, i.guard = some (t, want) ∧ ((want = true ∧ lk st.env t = .c .tru) ∨ (want = false ∧ lk st.env t = .c .fls))
def Skips (st : St) (i : LIns) : Prop := ∃ t want, i.guard = some (t, want) ∧ ((want = true ∧ lk st.env t = .c .fls) ∨ (want = false ∧ lk st.env t = .c .tru) ∨ lk st.env t = .tup [])
theorem yielded_bool {a : Act} {opsA : Array Oper} {j t : Nat} {b : Bool} (hj : (opsA[j]?).bind (·.dst) = some t) (hb : a.tmps.getD t undef = .bool b) :
    yielded opsA a.tmps j = some b := by
  unfold yielded
  rw [hj]
  simp only [Option.bind_some]
  have : a.tmps[t]? = some (.bool b) := by
    rw [Array.getD_eq_getD_getElem?] at hb
    cases h : a.tmps[t]? with
    | none => rw [h] at hb; simp [undef] at hb
    | some x => rw [h] at hb; simp at hb; rw [hb]
  rw [this]
theorem Runs.wanted {N B0 base : Nat} {Γ : Cx} {w : World} {a : Act} {opsA : Array Oper} {o : Oper} (hr : Runs st i) (hc : Conc N B0 base Γ w st a)
    (hg : (o.guard = none ∧ i.guard = none) ∨ ∃ j want t, o.guard = some (j, want) ∧ (opsA[j]?).bind (·.dst) = some t ∧ i.guard = some (t, want)) : Region.wanted o (yielded opsA a.tmps) = true := by
  rcases hg with ⟨h1, _⟩ | ⟨j, want, t, h1, h2, h3⟩
  · simp [Region.wanted, h1]
  · rcases hr with h4 | ⟨t', want', h4, h5⟩
    · rw [h3] at h4; cases h4
    · rw [h3] at h4; cases h4
      simp only [Region.wanted, h1]
      rcases h5 with ⟨rfl, h5⟩ | ⟨rfl, h5⟩
      · rw [yielded_bool (b := true) h2 (hc.slot_tru h5)]; rfl
      · rw [yielded_bool (b := false) h2 (hc.slot_fls h5)]; rfl
theorem Skips.unwanted {N B0 base : Nat} {Γ : Cx} {w : World} {a : Act} {opsA : Array Oper} {o : Oper} (hr : Skips st i) (hc : Conc N B0 base Γ w st a)
    (hg : (o.guard = none ∧ i.guard = none) ∨ ∃ j want t, o.guard = some (j, want) ∧ (opsA[j]?).bind (·.dst) = some t ∧ i.guard = some (t, want)) : Region.wanted o (yielded opsA a.tmps) = false := by
  obtain ⟨t', want', h4, h5⟩ := hr
  rcases hg with ⟨_, h1⟩ | ⟨j, want, t, h1, h2, h3⟩
  · rw [h1] at h4; cases h4
  · rw [h3] at h4; cases h4
    simp only [Region.wanted, h1]
    rcases h5 with ⟨rfl, h5⟩ | ⟨rfl, h5⟩ | h5
    · rw [yielded_bool (b := false) h2 (hc.slot_fls h5)]; rfl
    · rw [yielded_bool (b := true) h2 (hc.slot_tru h5)]; rfl
    · have hu := hc.env t'
      rw [h5] at hu
      have hn : yielded opsA a.tmps j = none := by
        unfold yielded
        rw [h2]
        simp only [Option.bind_some]
        rw [Array.getD_eq_getD_getElem?] at hu
        cases hq : a.tmps[t']? with
        | none => rfl
        | some x =>
          rw [hq] at hu
          simp only [Option.getD_some] at hu
          cases hu with | tup _ us _ _ => rfl
      rw [hn]; rfl
theorem Gives.conc {B0 : Nat} {Γ : Cx} {w : World} {a : Act} {v : V} {σ' : Store} {nx' : Nat} {r : Result Next} {dst : Option Nat} (h : Gives base Γ w st.σ st.nx v σ' nx' r) (hc : Conc N B0 base Γ w st a) (hd : ∀ d, dst = some d → d < N) :
    ∃ u w' Γ', (r = .ok (.value u) w' ∨ (r = .ok .skip w' ∧ u = undef)) ∧ Ext base Γ w st.σ Γ' w' σ' ∧ Conc N B0 base Γ' w' ⟨putE st.env dst v, σ', nx'⟩ (a.put dst u) := by
  obtain ⟨u, w', Γ', hr, hv, hst, hle, hext, hρ, hnx⟩ := h
  exact ⟨u, w', Γ', hr, hext, hc.put hd hv hst hle hext hρ hnx⟩
theorem semAt_low {own : Bool} {o : Oper} {σ : Store} {nx : Nat} {ev : Operand → V} {r : Res} (h : xop ev σ nx (lowOp P own o) = some r) (ro : Option Nat) (ρ : Operand → Value) : o.semAt ro ρ = execOp ρ o :=
  Oper.semAt_eq ro ρ o (defer_lowOp h)
theorem Ops.step {v : V} {σ' : Store} {nx' : Nat} {ob : Prop} (hr : Runs st i) (hx : xop (evo st.env) st.σ st.nx i.op = some (ob, v, σ', nx')) (hob : ob)
    (h : Ops P N base rest ⟨putE st.env i.dst v, σ', nx'⟩ K) : Ops P N base (i :: rest) st K := by
  intro ro n B0 own opsA idx os hl hidx Γ0 Γ w0 w σ0 a hc hext
  obtain ⟨o, os', rfl, hi, hl'⟩ := lowList_cons hl
  obtain ⟨⟨b, hop⟩, hdst, hdN, hg⟩ := lowIns_some hi
  match idx, hidx with
  | k :: idx, hidx =>
    simp only [List.map_cons, List.cons.injEq] at hidx
    obtain ⟨hk, hidx⟩ := hidx
    rw [hop] at hx
    have hgives := xop_sound (P := P) (base := base) (Γ := Γ) (w := w) (o := o) (ρ := a.eval) rfl (fun x => hc.ev x) hc.ok (hc.free _ (Nat.le_refl _)) hc.le hx hob
    obtain ⟨u, w', Γ', hrun, hext', hconc⟩ := hgives.conc hc (dst := o.dst) hdN
    have hrest := h ro n B0 own opsA idx os' hl' hidx Γ0 Γ' w0 w' σ0 (a.put o.dst u) (by rw [hdst]; exact hconc) (hext.trans hext')
    have hw := hr.wanted hc hg
    simp only [wpOpsIn, hk, hw, if_true, Oper.wpIn]
    refine ⟨fun _ _ => trivial, ?_⟩
    rw [semAt_low hx]
    rcases hrun with h1 | ⟨h1, rfl⟩
    · rw [h1]; exact hrest
    · rw [h1]; exact hrest
theorem rep_undef {Γ : Cx} {w : World} : RepV Γ w (.tup []) undef := .tup _ _ rfl (fun i v u h => by simp at h)
theorem Ops.skip (hs : Skips st i) (h : Ops P N base rest ⟨putE st.env i.dst (.tup []), st.σ, st.nx⟩ K) : Ops P N base (i :: rest) st K := by
  intro ro n B0 own opsA idx os hl hidx Γ0 Γ w0 w σ0 a hc hext
  obtain ⟨o, os', rfl, hi, hl'⟩ := lowList_cons hl
  obtain ⟨_, hdst, hdN, hg⟩ := lowIns_some hi
  match idx, hidx with
  | k :: idx, hidx =>
    simp only [List.map_cons, List.cons.injEq] at hidx
    obtain ⟨hk, hidx⟩ := hidx
    have hw := hs.unwanted hc hg
    have hconc : Conc N B0 base Γ w ⟨putE st.env o.dst (.tup []), st.σ, st.nx⟩ (a.put o.dst undef) := hc.put hdN rep_undef hc.ok (CxLe.refl _) (Ext.refl _ _ _ _) (fun _ _ => rfl) (.inl ⟨rfl, rfl⟩)
    have hrest := h ro n B0 own opsA idx os' hl' hidx Γ0 Γ w0 w σ0 (a.put o.dst undef) (by rw [hdst]; exact hconc) hext
    simp only [wpOpsIn, hk, hw, Bool.false_eq_true, if_false]
    exact ⟨fun _ _ => trivial, hrest⟩
end
end Go.Pw
set_option linter.unusedVariables false
namespace Go.Pw
open Go Go.RowKit
section
variable {P : Program} {N base : Nat} {st : St} {K : St → Prop} {rest : List LIns} {i : LIns}
theorem Conc.know {B0 : Nat} {Γ : Cx} {w : World} {a : Act} {t : Nat} {b : Bool} (hc : Conc N B0 base Γ w st a) (h : lk st.env t = vbl b) :
    Conc N B0 base Γ w ⟨(t, if b then .c .tru else .c .fls) :: st.env, st.σ, st.nx⟩ a := by
  refine ⟨hc.size, fun t' => ?_, hc.ok, hc.free, hc.le, hc.dfs⟩
  simp only [lk_cons]
  split
  · rename_i ht
    subst ht
    have := hc.env t
    rw [h] at this
    rw [this.bool]
    cases b <;> exact .c _ _ rfl
  · exact hc.env t'
theorem Ops.know {ops : List LIns} (t : Nat) (b : Bool) (h : lk st.env t = vbl b) (h1 : b = true → Ops P N base ops ⟨(t, .c .tru) :: st.env, st.σ, st.nx⟩ K) (h2 : b = false → Ops P N base ops ⟨(t, .c .fls) :: st.env, st.σ, st.nx⟩ K) : Ops P N base ops st K := by
  intro ro n B0 own opsA idx os hl hidx Γ0 Γ w0 w σ0 a hc hext
  have hk := hc.know h
  cases b with
  | true => exact h1 rfl ro n B0 own opsA idx os hl hidx Γ0 Γ w0 w σ0 a hk hext
  | false => exact h2 rfl ro n B0 own opsA idx os hl hidx Γ0 Γ w0 w σ0 a hk hext
inductive Gd where
  | run | skip | stop
def guardOf (env : List (Nat × V)) : Option (Nat × Bool) → Gd
  | none => .run
  | some (t, true) => match lk env t with
    | .c .tru => .run
    | .c .fls => .skip
    | .tup [] => .skip
    | _ => .stop
  | some (t, false) => match lk env t with
    | .c .tru => .skip
    | .c .fls => .run
    | .tup [] => .skip
    | _ => .stop
theorem guardOf_run {env : List (Nat × V)} {σ : Store} {nx : Nat} (h : guardOf env i.guard = .run) : Runs ⟨env, σ, nx⟩ i := by
  unfold guardOf at h
  split at h
  · rename_i hg; exact .inl hg
  · rename_i t hg
    split at h <;> first | (rename_i hl; exact .inr ⟨t, true, hg, .inl ⟨rfl, hl⟩⟩) | cases h
  · rename_i t hg
    split at h <;> first | (rename_i hl; exact .inr ⟨t, false, hg, .inr ⟨rfl, hl⟩⟩) | cases h
theorem guardOf_skip {env : List (Nat × V)} {σ : Store} {nx : Nat} (h : guardOf env i.guard = .skip) : Skips ⟨env, σ, nx⟩ i := by
  unfold guardOf at h
  split at h
  · cases h
  · rename_i t hg
    split at h <;> first | (rename_i hl; exact ⟨t, true, hg, .inl ⟨rfl, hl⟩⟩) | (rename_i hl; exact ⟨t, true, hg, .inr (.inr hl)⟩) | cases h
  · rename_i t hg
    split at h <;> first | (rename_i hl; exact ⟨t, false, hg, .inr (.inl ⟨rfl, hl⟩)⟩) | (rename_i hl; exact ⟨t, false, hg, .inr (.inr hl)⟩) | cases h
theorem Ops.mono {ops : List LIns} {K' : St → Prop} (h : Ops P N base ops st K) (hk : ∀ st', K st' → K' st') : Ops P N base ops st K' := by
  intro ro n B0 own opsA idx os hl hidx Γ0 Γ w0 w σ0 a hc hext
  have := h ro n B0 own opsA idx os hl hidx Γ0 Γ w0 w σ0 a hc hext
  clear h hl hidx
  -- the posts alone differ
  have key : ∀ (idx : List Nat) (a : Act) (w : World), wpOpsIn (FW ro) n P opsA (Post N B0 base Γ0 w0 σ0 fun e st' => e = .normal ∧ K st') idx a w →
      wpOpsIn (FW ro) n P opsA (Post N B0 base Γ0 w0 σ0 fun e st' => e = .normal ∧ K' st') idx a w := by
    have hpost : ∀ e a w, Post N B0 base Γ0 w0 σ0 (fun e st' => e = .normal ∧ K st') e a w → Post N B0 base Γ0 w0 σ0 (fun e st' => e = .normal ∧ K' st') e a w := fun e a w ⟨Γ', st', h1, h2, h3, h4⟩ => ⟨Γ', st', h1, h2, h3, hk _ h4⟩
    intro idx
    induction idx with
    | nil => intro a w h; exact hpost _ _ _ h
    | cons k idx ih =>
      intro a w h
      simp only [wpOpsIn] at h ⊢
      split
      · rename_i ho; rw [ho] at h; exact ih _ _ h
      · rename_i o ho
        rw [ho] at h
        simp only at h
        split
        · rename_i hw
          rw [if_pos hw] at h
          refine ⟨h.1, ?_⟩
          have h := h.2
          generalize (o.semAt (FW ro).round a.eval).run P w = r at *
          cases r with
          | ok x w' =>
            cases x <;> simp only [Oper.uponIn] at h ⊢ <;>
              first
                | exact ih _ _ h
                | exact ⟨h.1, CallsIn.mono h.2 (fun e w'' he => by cases e <;> first | exact ih _ _ he | exact hpost _ _ _ he | (obtain ⟨a1, w1, hq⟩ := he; exact ⟨a1, w1, hpost _ _ _ hq⟩))⟩
                | exact ⟨h.1, RowsIn.mono h.2 (fun _ _ he => ih _ _ he)⟩
                | exact ⟨h.1, RoundIn.mono h.2 (fun e w'' he => by cases e <;> first | exact ih _ _ he | exact hpost _ _ _ he | (obtain ⟨a1, w1, hq⟩ := he; exact ⟨a1, w1, hpost _ _ _ hq⟩))⟩
          | halt x w' => cases x <;> simp only [Oper.uponIn] at h ⊢ <;> exact hpost _ _ _ h
        · rename_i hw
          rw [if_neg hw] at h
          exact ⟨h.1, ih _ _ h.2⟩
  exact key _ _ _ this
end
def Sat (P : Program) (N base : Nat) (c : LCode) (st : St) (Q : Exit → St → Prop) : Prop :=
  ∀ (ro : Option Nat) (n B0 : Nat) (own : List Nat) (code : Code), (c.ranges = true → ro = none) → lowCode P N own code = some c →
    ∀ (Γ0 Γ : Cx) (w0 w : World) (σ0 : Store) (a : Act), Conc N B0 base Γ w st a → Ext base Γ0 w0 σ0 Γ w st.σ → code.wpIn (FW ro) n P (Post N B0 base Γ0 w0 σ0 Q) a w
section
variable {P : Program} {N base : Nat} {st : St} {Q : Exit → St → Prop} {x y : LCode}
theorem Sat.mono {Q' : Exit → St → Prop} (h : Sat P N base x st Q) (hq : ∀ e st', Q e st' → Q' e st') : Sat P N base x st Q' := by
  intro ro n B0 own code hro hl Γ0 Γ w0 w σ0 a hc hext
  exact wpIn_mono (h ro n B0 own code hro hl Γ0 Γ w0 w σ0 a hc hext) (fun e a w ⟨Γ', st', h1, h2, h3⟩ => ⟨Γ', st', h1, h2, hq _ _ h3⟩)
def thenQ (P : Program) (N base : Nat) (y : LCode) (Q : Exit → St → Prop) : Exit → St → Prop
  | .normal, st => Sat P N base y st Q
  | e, st => Q e st
def blockQ (id : Nat) (Q : Exit → St → Prop) : Exit → St → Prop
  | .exit id', st => if Nat.beq id' id then Q .normal st else Q (.exit id') st
  | e, st => Q e st
theorem low_skip {own : List Nat} {code : Code} (h : lowCode P N own code = some .skip) : code = .skip := by
  cases code <;> simp [lowCode, Option.bind_eq_some_iff] at h <;> (try rfl) <;> (try (split at h <;> simp at h))
theorem low_seq {own : List Nat} {code : Code} (h : lowCode P N own code = some (.seq x y)) : ∃ a b, code = .seq a b ∧ lowCode P N own a = some x ∧ lowCode P N own b = some y := by
  cases code with
  | seq a b =>
    simp only [lowCode, Option.bind_eq_bind, Option.bind_eq_some_iff, Option.some.injEq] at h
    obtain ⟨p, hp, q, hq, h⟩ := h
    cases h
    exact ⟨a, b, rfl, hp, hq⟩
  | _ => simp [lowCode, Option.bind_eq_some_iff] at h <;> (try (split at h <;> simp at h))
end
end Go.Pw
set_option linter.unusedVariables false
namespace Go.Pw
open Go Go.RowKit
section
variable {P : Program} {N base : Nat} {st : St} {Q : Exit → St → Prop} {x y : LCode} {own : List Nat} {code : Code}
theorem low_cond {c : Operand} (h : lowCode P N own code = some (.cond c x y)) : ∃ a b, code = .cond c a b ∧ lowCode P N own a = some x ∧ lowCode P N own b = some y := by
  cases code with
  | cond c' a b =>
    simp only [lowCode, Option.bind_eq_bind, Option.bind_eq_some_iff, Option.some.injEq] at h
    obtain ⟨p, hp, q, hq, h⟩ := h
    cases h
    exact ⟨a, b, rfl, hp, hq⟩
  | _ => simp [lowCode, Option.bind_eq_some_iff] at h <;> (try (split at h <;> simp at h))
theorem low_block {id : Nat} (h : lowCode P N own code = some (.block id x)) : ∃ a, code = .block id a ∧ lowCode P N own a = some x := by
  cases code with
  | block id' a =>
    simp only [lowCode] at h
    obtain ⟨p, hp, h⟩ := Option.map_eq_some_iff.1 h
    cases h
    exact ⟨a, rfl, hp⟩
  | _ => simp [lowCode, Option.bind_eq_some_iff] at h <;> (try (split at h <;> simp at h))
theorem low_loop (h : lowCode P N own code = some (.loop x)) : ∃ a, code = .loop a ∧ lowCode P N own a = some x := by
  cases code with
  | loop a =>
    simp only [lowCode] at h
    obtain ⟨p, hp, h⟩ := Option.map_eq_some_iff.1 h
    cases h
    exact ⟨a, rfl, hp⟩
  | _ => simp [lowCode, Option.bind_eq_some_iff] at h <;> (try (split at h <;> simp at h))
theorem low_exit {id : Nat} (h : lowCode P N own code = some (.exit id)) : code = .exit id := by
  cases code with
  | exit id' => simp only [lowCode, Option.some.injEq] at h; cases h; rfl
  | _ => simp [lowCode, Option.bind_eq_some_iff] at h <;> (try (split at h <;> simp at h))
theorem low_ret (h : lowCode P N own code = some .ret) : code = .ret := by
  cases code with
  | ret => rfl
  | _ => simp [lowCode, Option.bind_eq_some_iff] at h <;> (try (split at h <;> simp at h))
theorem low_region {ops : List LIns} (h : lowCode P N own code = some (.region ops)) : ∃ id opsA, code = .region id opsA false ∧ lowList P N own opsA opsA.toList = some ops := by
  cases code with
  | region id opsA draw =>
    simp only [lowCode, Option.bind_eq_bind, Option.bind_eq_some_iff] at h
    obtain ⟨l, hl, h⟩ := h
    cases draw with
    | true =>
      simp only [if_true] at h
      split at h <;> cases h
    | false =>
      simp only [Bool.false_eq_true, if_false, Option.some.injEq] at h
      cases h
      exact ⟨id, opsA, rfl, hl⟩
  | _ => simp [lowCode, Option.bind_eq_some_iff] at h
theorem low_scope (h : lowCode P N own code = some (.scope x)) : ∃ a, code = .scope a ∧ lowCode P N own a = some x := by
  cases code with
  | scope a =>
    simp only [lowCode] at h
    obtain ⟨p, hp, h⟩ := Option.map_eq_some_iff.1 h
    cases h
    exact ⟨a, rfl, hp⟩
  | _ => simp [lowCode, Option.bind_eq_some_iff] at h <;> (try (split at h <;> simp at h))
theorem low_label (h : lowCode P N own code = some .label) : ∃ l, code = .label l := by
  cases code with
  | label l => exact ⟨l, rfl⟩
  | _ => simp [lowCode, Option.bind_eq_some_iff] at h <;> (try (split at h <;> simp at h))
def noGo (Q : Exit → Act → World → Prop) : Exit → Act → World → Prop
  | .goto _, _, _ => False
  | e, a, w => Q e a w
def noGoS (Q : Exit → St → Prop) : Exit → St → Prop
  | .goto _, _ => False
  | e, st => Q e st
theorem stepR_scope' {b : Frame} {a : Act} {k : List Item} {cs : List Frame} {w : World} {c : Code} : step P (lone (b.atR a (.code (.scope c) :: k)) cs w) = .next (lone (b.atR a (.code c :: .inScope c :: k)) cs w) :=
  step_lone_go (by simp [stepG, stepG.exec, Frame.atR])
theorem stepR_inScope' {b : Frame} {a : Act} {k : List Item} {cs : List Frame} {w : World} {c : Code} : step P (lone (b.atR a (.inScope c :: k)) cs w) = .next (lone (b.atR a k) cs w) :=
  step_lone_go (by simp [stepG, stepG.exec, Frame.atR])
theorem wpIn_scope {F : Fence} {n : Nat} {c : Code} {Q : Exit → Act → World → Prop} {a : Act} {w : World} (h : c.wpIn F n P (noGo Q) a w) : (Code.scope c).wpIn F n P Q a w := by
  intro b k cs hro hb hr
  have h0 : (lone (b.atR a (.code (.scope c) :: k)) cs w).fenced P F := fenced_calm hb hr rfl
  obtain ⟨e, a₁, w₁, hq, harr⟩ := h b (.inScope c :: k) cs hro hb hr
  cases e with
  | normal => exact ⟨.normal, a₁, w₁, hq, .head h0 stepR_scope' (StepsIn.trans harr (.one (fenced_calm hb hr rfl) stepR_inScope'))⟩
  | exit id =>
    have hx : exitTo id (.inScope c :: k) = exitTo id k := by simp [exitTo]
    exact ⟨.exit id, a₁, w₁, hq, fun k' hk => .head h0 stepR_scope' (harr.1 k' (by rw [hx]; exact hk)),
      fun hr' hk => let ⟨k₁, h1, h2⟩ := harr.2 hr' (by rw [hx]; exact hk); ⟨k₁, h1, .head h0 stepR_scope' h2⟩⟩
  | goto l => exact hq.elim
  | ret => exact ⟨_, a₁, w₁, hq, .of_steps (.one h0 stepR_scope') harr⟩
  | panic ch => exact ⟨_, a₁, w₁, hq, .of_steps (.one h0 stepR_scope') harr⟩
  | outgrown => exact ⟨_, a₁, w₁, hq, .of_steps (.one h0 stepR_scope') harr⟩
theorem Sat.skip (h : Q .normal st) : Sat P N base .skip st Q := by
  intro ro n B0 own code hro hl Γ0 Γ w0 w σ0 a hc hext
  rw [low_skip hl]
  exact wpIn_skip ⟨Γ, st, hc, hext, h⟩
theorem Sat.exit {id : Nat} (h : Q (.exit id) st) : Sat P N base (.exit id) st Q := by
  intro ro n B0 own code hro hl Γ0 Γ w0 w σ0 a hc hext
  rw [low_exit hl]
  exact wpIn_exit ⟨Γ, st, hc, hext, h⟩
theorem Sat.ret (h : Q .ret st) : Sat P N base .ret st Q := by
  intro ro n B0 own code hro hl Γ0 Γ w0 w σ0 a hc hext
  rw [low_ret hl]
  exact wpIn_ret ⟨Γ, st, hc, hext, h⟩
theorem Sat.label (h : Q .normal st) : Sat P N base .label st Q := by
  intro ro n B0 own code hro hl Γ0 Γ w0 w σ0 a hc hext
  obtain ⟨l, rfl⟩ := low_label hl
  exact wpIn_label ⟨Γ, st, hc, hext, h⟩
theorem Sat.scope (h : Sat P N base x st (noGoS Q)) : Sat P N base (.scope x) st Q := by
  intro ro n B0 own code hro hl Γ0 Γ w0 w σ0 a hc hext
  obtain ⟨c1, rfl, h1⟩ := low_scope hl
  refine wpIn_scope (wpIn_mono (h ro n B0 own c1 hro h1 Γ0 Γ w0 w σ0 a hc hext) (fun e a' w' ⟨Γ', st', h3, h4, h5⟩ => ?_))
  cases e with
  | goto l => exact h5.elim
  | _ => exact ⟨Γ', st', h3, h4, h5⟩
theorem Sat.seq (h : Sat P N base x st (thenQ P N base y Q)) : Sat P N base (.seq x y) st Q := by
  intro ro n B0 own code hro hl Γ0 Γ w0 w σ0 a hc hext
  obtain ⟨c1, c2, rfl, h1, h2⟩ := low_seq hl
  refine wpIn_seq (wpIn_mono (h ro n B0 own c1 (fun h => hro (by simp [LCode.ranges, h])) h1 Γ0 Γ w0 w σ0 a hc hext) (fun e a' w' ⟨Γ', st', h3, h4, h5⟩ => ?_))
  cases e with
  | normal => exact h5 ro n B0 own c2 (fun h => hro (by simp [LCode.ranges, h])) h2 Γ0 Γ' w0 w' σ0 a' h3 h4
  | _ => exact ⟨Γ', st', h3, h4, h5⟩
theorem Sat.block {id : Nat} (h : Sat P N base x st (blockQ id Q)) : Sat P N base (.block id x) st Q := by
  intro ro n B0 own code hro hl Γ0 Γ w0 w σ0 a hc hext
  obtain ⟨c1, rfl, h1⟩ := low_block hl
  refine wpIn_block (wpIn_mono (h ro n B0 own c1 hro h1 Γ0 Γ w0 w σ0 a hc hext) (fun e a' w' ⟨Γ', st', h3, h4, h5⟩ => ?_))
  cases e with
  | exit id' =>
    simp only [Exit.inBlock]
    simp only [blockQ] at h5
    split
    · rename_i he
      subst he
      rw [if_pos (Nat.beq_refl _)] at h5
      exact ⟨Γ', st', h3, h4, h5⟩
    · rename_i he
      rw [if_neg (fun hb => he (Nat.eq_of_beq_eq_true hb))] at h5
      exact ⟨Γ', st', h3, h4, h5⟩
  | _ => exact ⟨Γ', st', h3, h4, h5⟩
theorem Sat.know (t : Nat) (b : Bool) (h : lk st.env t = vbl b) (h1 : b = true → Sat P N base x ⟨(t, .c .tru) :: st.env, st.σ, st.nx⟩ Q) (h2 : b = false → Sat P N base x ⟨(t, .c .fls) :: st.env, st.σ, st.nx⟩ Q) : Sat P N base x st Q := by
  intro ro n B0 own code hro hl Γ0 Γ w0 w σ0 a hc hext
  have hk := hc.know h
  cases b with
  | true => exact h1 rfl ro n B0 own code hro hl Γ0 Γ w0 w σ0 a hk hext
  | false => exact h2 rfl ro n B0 own code hro hl Γ0 Γ w0 w σ0 a hk hext
theorem Sat.condT {c : Operand} (hv : evo st.env c = .c .tru) (h : Sat P N base x st Q) : Sat P N base (.cond c x y) st Q := by
  intro ro n B0 own code hro hl Γ0 Γ w0 w σ0 a hc hext
  obtain ⟨c1, c2, rfl, h1, h2⟩ := low_cond hl
  have := hc.ev c
  rw [hv] at this
  exact wpIn_cond_true this.tru (h ro n B0 own c1 (fun h => hro (by simp [LCode.ranges, h])) h1 Γ0 Γ w0 w σ0 a hc hext)
theorem Sat.condF {c : Operand} (hv : evo st.env c = .c .fls) (h : Sat P N base y st Q) : Sat P N base (.cond c x y) st Q := by
  intro ro n B0 own code hro hl Γ0 Γ w0 w σ0 a hc hext
  obtain ⟨c1, c2, rfl, h1, h2⟩ := low_cond hl
  have := hc.ev c
  rw [hv] at this
  exact wpIn_cond_false this.fls (h ro n B0 own c2 (fun h => hro (by simp [LCode.ranges, h])) h2 Γ0 Γ w0 w σ0 a hc hext)
theorem Sat.cond {t : Nat} {b : Bool} (h : lk st.env t = vbl b) (h1 : b = true → Sat P N base x ⟨(t, .c .tru) :: st.env, st.σ, st.nx⟩ Q) (h2 : b = false → Sat P N base y ⟨(t, .c .fls) :: st.env, st.σ, st.nx⟩ Q) :
    Sat P N base (.cond (.tmp t) x y) st Q :=
  Sat.know t b h (fun hb => Sat.condT (by simp [evo, lk_cons]) (h1 hb)) (fun hb => Sat.condF (by simp [evo, lk_cons]) (h2 hb))
theorem range_map (opsA : Array Oper) : (List.range opsA.size).map (opsA[·]?) = opsA.toList.map some := by
  apply List.ext_getElem
  · simp
  · intro i h1 h2
    simp at h1
    simp [h1]
theorem Sat.region {ops : List LIns} (h : Ops P N base ops st fun st' => Q .normal st') : Sat P N base (.region ops) st Q := by
  intro ro n B0 own code hro hl Γ0 Γ w0 w σ0 a hc hext
  obtain ⟨id, opsA, rfl, h1⟩ := low_region hl
  refine wpIn_mono (wpIn_region (h ro n B0 own opsA (List.range opsA.size) opsA.toList h1 (range_map opsA) Γ0 Γ w0 w σ0 a hc hext)) (fun e a' w' ⟨Γ', st', h3, h4, h5, h6⟩ => ?_)
  subst h5
  exact ⟨Γ', st', h3, h4, h6⟩
def rnC (π : Nat → Nat) : C → C
  | .fn f ids => .fn f (ids.map π)
  | .bp id off => .bp (π id) off
  | .ep id s i j => .ep (π id) s i j
  | .ms id n => .ms (π id) n
  | .yd id => .yd (π id)
  | .mp id => .mp (π id)
  | .sb id n => .sb (π id) n
  | c => c
def rnV (π : Nat → Nat) : V → V
  | .c x => .c (rnC π x)
  | .agg cs => .agg (cs.map (rnC π))
  | v => v
inductive DEq : D → D → Prop
  | refl (d : D) : DEq d d
  | sl (s n : Nat) (f g : Nat → List D) (h : ∀ i, i < n → f i = g i) : DEq (.sl s n f) (.sl s n g)
  | nil (s : Nat) (g : Nat → List D) : DEq (.v (.slice none 0 0)) (.sl s 0 g)
  | e (s s' : Nat) (f g : Nat → List D) : DEq (.sl s 0 f) (.sl s' 0 g)
inductive CEq : C → C → Prop
  | refl (c : C) : CEq c c
  | d (x y : D) (h : DEq x y) : CEq (.d x) (.d y)
  | z (s : Nat) (g : Nat → List D) : CEq .z (.d (.sl s 0 g))
  | tru : CEq .tru (.d (.v (.bool true)))
  | fls : CEq .fls (.d (.v (.bool false)))
inductive VEq : V → V → Prop
  | refl (v : V) : VEq v v
  | unk (v : V) : VEq v .unk
  | c (x y : C) (h : CEq x y) : VEq (.c x) (.c y)
  | agg (xs ys : List C) (hl : xs.length = ys.length) (h : ∀ (i : Nat) x y, xs[i]? = some x → ys[i]? = some y → CEq x y) : VEq (.agg xs) (.agg ys)
inductive EEq : Ent → Ent → Prop
  | box (xs ys : List C) (hl : xs.length = ys.length) (h : ∀ (i : Nat) x y, xs[i]? = some x → ys[i]? = some y → CEq x y) : EEq (.box xs) (.box ys)
  | row (e : TypeId) (s n : Nat) (f g : Nat → List D) (fz : Bool) (h : ∀ i, i < n → f i = g i) : EEq (.row e s n f fz) (.row e s n g fz)
  | lp (env env' : List (Nat × V)) (st : LoopState) (j : Option Code) (R : Loop → Prop) (h : ∀ t, VEq (lk env t) (lk env' t)) : EEq (.lp env st j R) (.lp env' st j R)
  | mp (m : Nat) (es : List (Int × Int)) : EEq (.mp m es) (.mp m es)
theorem DEq.rep {I : Nat → Prop} {w : World} {d d' : D} {u : Value} (h : DEq d d') (hr : RepD I w d u) : RepD I w d' u := by
  cases h with
  | refl => exact hr
  | sl s n f g h =>
    cases hr with
    | slE s f A c => exact .slE _ _ _ _
    | sl s n f ad c U hn hI hs hc hrr =>
      refine .sl s n g ad c U hn hI (fun i hi => by rw [← h i hi]; exact hs i hi) (fun i j d hi hd => hc i j d hi (by rw [h i hi]; exact hd)) (fun i j d hi hd => hrr i j d hi (by rw [h i hi]; exact hd))
  | nil s g =>
    generalize hx : D.v (.slice none 0 0) = d at hr
    cases hr <;> first | cases hx
    exact .slE _ _ _ _
  | e s s' f g =>
    generalize hx : D.sl s 0 f = d at hr
    cases hr with
    | v x h => cases hx
    | slE s f A c => exact .slE _ _ _ _
    | sl s n f ad c U hn hI hs hc hrr => cases hx; exact .slE _ _ _ _
theorem CEq.rep {Γ : Cx} {w : World} {c c' : C} {u : Value} (h : CEq c c') (hr : RepC Γ w c u) : RepC Γ w c' u := by
  cases h with
  | refl => exact hr
  | d x y h => exact h.rep hr
  | z s g => obtain ⟨A, rfl⟩ := hr; exact .slE _ _ _ _
  | tru => obtain rfl : u = _ := hr; exact .v _ rfl
  | fls => obtain rfl : u = _ := hr; exact .v _ rfl
theorem VEq.rep {Γ : Cx} {w : World} {v v' : V} {u : Value} (h : VEq v v') (hr : RepV Γ w v u) : RepV Γ w v' u := by
  cases h with
  | refl => exact hr
  | unk => exact .unk _
  | c x y h => cases hr with | c _ _ hr => exact .c _ _ (h.rep hr)
  | agg xs ys hl h =>
    cases hr with
    | agg _ us hu hr =>
      refine .agg _ _ (by rw [hu, hl]) (fun i c u hc hu' => ?_)
      have hi : i < xs.length := by rw [hl]; exact (List.getElem?_eq_some_iff.1 hc).1
      exact (h i xs[i] c (List.getElem?_eq_getElem hi) hc).rep (hr i xs[i] u (List.getElem?_eq_getElem hi) hu')
def cLt (n : Nat) : C → Prop
  | .fn _ ids => ∀ i ∈ ids, i < n
  | .bp id _ => id < n
  | .ep id _ _ _ => id < n
  | .ms id _ => id < n
  | .yd id => id < n
  | .mp id => id < n
  | .sb id _ => id < n
  | _ => True
def csLt (n : Nat) : List C → Prop
  | [] => True
  | c :: cs => cLt n c ∧ csLt n cs
def vLt (n : Nat) : V → Prop
  | .c x => cLt n x
  | .agg cs => csLt n cs
  | .tup _ => False
  | .unk => True
def envLt (n : Nat) : List (Nat × V) → Prop
  | [] => True
  | (_, v) :: e => vLt n v ∧ envLt n e
def eLt (n : Nat) : Ent → Prop
  | .box cs => csLt n cs
  | .row .. => True
  | .lp env _ _ _ => envLt n env
  | .mp .. => True
theorem envLt_lk {n : Nat} : ∀ {env : List (Nat × V)}, envLt n env → ∀ t, vLt n (lk env t)
  | [], _, _ => trivial
  | (a, v) :: e, h, t => by
    simp only [lk]
    split
    · exact h.1
    · exact envLt_lk h.2 t
theorem csLt_get {n : Nat} : ∀ {cs : List C}, csLt n cs → ∀ {i : Nat} {c : C}, cs[i]? = some c → cLt n c
  | [], _, i, c, h => by simp at h
  | x :: cs, hl, i, c, h => by
    cases i with
    | zero => simp at h; subst h; exact hl.1
    | succ i => exact csLt_get hl.2 (by simpa using h)
def envOk (n0 : Nat) (π : Nat → Nat) (env : List (Nat × V)) : List (Nat × V) → Prop
  | [] => True
  | (t, v) :: e0 => (VEq (lk env t) (rnV π v) ∧ vLt n0 v) ∧ envOk n0 π env e0
def rnE (π : Nat → Nat) : Ent → Ent
  | .box cs => .box (cs.map (rnC π))
  | .row e s n f fz => .row e s n f fz
  | .lp env st j R => .lp (env.map fun p => (p.1, rnV π p.2)) st j R
  | .mp m es => .mp m es
theorem lk_map {π : Nat → Nat} : ∀ (env : List (Nat × V)) (t : Nat), lk (env.map fun p => (p.1, rnV π p.2)) t = rnV π (lk env t)
  | [], _ => rfl
  | (a, v) :: e, t => by
    simp only [List.map_cons, lk]
    split
    · rfl
    · exact lk_map e t
def stoOk (n0 : Nat) (π : Nat → Nat) (σ σ0 : Store) : Prop := ∀ id x, get σ0 id = some x → id < n0 ∧ eLt n0 x ∧ ∃ y, get σ (π id) = some y ∧ EEq y (rnE π x)
theorem stoOk.nil {n0 : Nat} {π : Nat → Nat} {σ : Store} : stoOk n0 π σ [] := fun id x h => by simp [get] at h
theorem stoOk.cons {n0 : Nat} {π : Nat → Nat} {σ σ0 : Store} {id : Nat} {x : Ent} (h1 : id < n0) (h2 : eLt n0 x) (h3 : ∃ y, get σ (π id) = some y ∧ EEq y (rnE π x)) (h : stoOk n0 π σ σ0) : stoOk n0 π σ ((id, x) :: σ0) := fun j y hy => by
  by_cases hj : j = id
  · subst hj; rw [get_cons_same] at hy; cases hy; exact ⟨h1, h2, h3⟩
  · rw [get_cons_other hj] at hy; exact h j y hy
structure Wk (base : Nat) (st st0 : St) (π : Nat → Nat) : Prop where
  fix : ∀ i, i < base → π i = i
  inj : ∀ i j, i < st0.nx → j < st0.nx → π i = π j → i = j
  le : base ≤ st0.nx
  env : envOk st0.nx π st.env st0.env
  sto : stoOk st0.nx π st.σ st0.σ
def Cx.ren (Γ : Cx) (π : Nat → Nat) (n0 : Nat) : Cx := { I := Γ.I, ρ := fun i => if i < n0 then Γ.ρ (π i) else none, κ := fun i => Γ.κ (π i) }
theorem ren_rep {Γ : Cx} {w : World} {π : Nat → Nat} {n0 : Nat} {c : C} {u : Value} (hl : cLt n0 c) (h : RepC Γ w (rnC π c) u) : RepC (Γ.ren π n0) w c u := by
  cases c with
  | d x => exact h
  | tru => exact h
  | fls => exact h
  | z => exact h
  | rp row => exact h
  | fn f ids =>
    obtain ⟨bs, h1, h2, h3⟩ := h
    refine ⟨bs, by rw [h1]; simp, fun j i hj => ?_, h3⟩
    have hi : i < n0 := hl i (List.mem_of_getElem? hj)
    obtain ⟨b, hb, hb'⟩ := h2 j (π i) (by simp [hj])
    exact ⟨b, by simp [Cx.ren, hi, hb], hb'⟩
  | bp id off =>
    obtain ⟨b, hb, hu⟩ := h
    exact ⟨b, by simp [Cx.ren, show id < n0 from hl, hb], hu⟩
  | ep id s i j =>
    obtain ⟨b, hb, hu⟩ := h
    exact ⟨b, by simp [Cx.ren, show id < n0 from hl, hb], hu⟩
  | ms id n =>
    obtain ⟨b, hb, hu⟩ := h
    exact ⟨b, by simp [Cx.ren, show id < n0 from hl, hb], hu⟩
  | yd id =>
    obtain ⟨b, hb, hu⟩ := h
    exact ⟨b, by simp [Cx.ren, show id < n0 from hl, hb], hu⟩
  | mp id =>
    obtain ⟨b, hb, hu⟩ := h
    exact ⟨b, by simp [Cx.ren, show id < n0 from hl, hb], hu⟩
  | fl n => exact h
  | cl s n f => exact h
  | fnR f rows => exact h
  | fnB f ds => exact h
  | cx m n => exact h
  | er => exact h
  | sb id n =>
    obtain ⟨b, hb, hu⟩ := h
    exact ⟨b, by simp [Cx.ren, show id < n0 from hl, hb], hu⟩
theorem ren_repV {Γ : Cx} {w : World} {π : Nat → Nat} {n0 : Nat} {v : V} {u : Value} (hl : vLt n0 v) (h : RepV Γ w (rnV π v) u) : RepV (Γ.ren π n0) w v u := by
  cases v with
  | c x => cases h with | c _ _ h => exact .c _ _ (ren_rep hl h)
  | agg cs =>
    cases h with
    | agg _ us hu hr =>
      refine .agg _ _ (by rw [hu]; simp) (fun i c u hc hu' => ren_rep (csLt_get hl hc) (hr i (rnC π c) u (by simp [hc]) hu'))
  | tup vs => exact hl.elim
  | unk => exact .unk _
theorem EEq.ent {Γ : Cx} {w : World} {id b : Nat} {x y : Ent} (h : EEq x y) (he : EntOk Γ w id b x) : EntOk Γ w id b y := by
  cases h with
  | box xs ys hl h =>
    obtain ⟨h1, us, t, h2, h3, h4⟩ := he
    refine ⟨h1, us, t, h2, by rw [h3, hl], fun i c hc => ?_⟩
    have hi : i < xs.length := by rw [hl]; exact (List.getElem?_eq_some_iff.1 hc).1
    obtain ⟨u, hu, hr⟩ := h4 i xs[i] (List.getElem?_eq_getElem hi)
    exact ⟨u, hu, (h i xs[i] c (List.getElem?_eq_getElem hi) hc).rep hr⟩
  | row e s n f g fz h =>
    rcases he with h1 | ⟨c, h1, h2, h3, h4, h5, h6, us, h7, h8, h9⟩
    · exact .inl h1
    · exact .inr ⟨c, h1, h2, h3, h4, h5, fun i hi => by rw [← h i hi]; exact h6 i hi, us, h7, h8, fun i j d hi hd => h9 i j d hi (by rw [h i hi]; exact hd)⟩
  | lp env env' st j R h =>
    obtain ⟨h1, r, h2, h3, h4, h5, h6⟩ := he
    exact ⟨h1, r, h2, h3, h4, h5, fun t => (h t).rep (h6 t)⟩
  | mp m es => exact he
theorem EEq.live {Γ : Cx} {id : Nat} {x y : Ent} (h : EEq x y) : LiveE Γ id y ↔ LiveE Γ id x := by
  cases h <;> exact Iff.rfl
theorem weaken_core {B0 : Nat} {Γ : Cx} {w : World} {a : Act} {st0 : St} {π : Nat → Nat} (hsize : a.tmps.size = N) (henv0 : ∀ t, RepV Γ w (lk st.env t) (a.tmps.getD t undef)) (hok0 : StoreOk Γ w st.σ)
    (hdfs : ∃ Ds : List Nat, a.defers = Ds.map mkD ∧ (Ds.Nodup ∧ B0 ≤ w.heap.size) ∧ ∀ D ∈ Ds, B0 ≤ D ∧ ¬ Γ.I D ∧ ¬ Live Γ st.σ D ∧ w.heap[D]? = some (.deferred (some []))) (hw : Wk base st st0 π) :
    Conc N B0 base (Γ.ren π st0.nx) w st0 a ∧ Ext base Γ w st.σ (Γ.ren π st0.nx) w st0.σ := by
  have hent : ∀ id x, get st0.σ id = some x → ∃ b y, get st.σ (π id) = some y ∧ EEq y (rnE π x) ∧ Γ.ρ (π id) = some b ∧ (Γ.ren π st0.nx).ρ id = some b ∧ EntOk Γ w (π id) b y := fun id x hx => by
    obtain ⟨h1, h2, y, hy, he⟩ := hw.sto id x hx
    obtain ⟨b, hb, hok⟩ := hok0.ok _ _ hy
    exact ⟨b, y, hy, he, hb, by simp [Cx.ren, h1, hb], hok⟩
  have hlive : ∀ id, LiveId (Γ.ren π st0.nx) st0.σ id → id < st0.nx ∧ LiveId Γ st.σ (π id) := fun id hl => by
    obtain ⟨x, hx, hlx⟩ := liveId_iff.1 hl
    obtain ⟨h1, _, y, hy, he⟩ := hw.sto id x hx
    refine ⟨h1, liveId_iff.2 ⟨y, hy, ?_⟩⟩
    rw [← he.live]
    cases x with
    | box cs => trivial
    | row e s n f fz => exact hlx
    | lp env st j R => trivial
    | mp m es => trivial
  have hlk : ∀ k, Live (Γ.ren π st0.nx) st0.σ k → Live Γ st.σ k := fun k ⟨id, hl, hk⟩ => by
    obtain ⟨h1, h2⟩ := hlive id hl
    exact ⟨π id, h2, by simpa [Cx.ren, h1] using hk⟩
  refine ⟨⟨hsize, fun t => ?_, ⟨hok0.im, fun id x hx => ?_, fun i j k hi hj hki hkj => ?_, hok0.lay⟩, fun id hid => ?_, hw.le, ?_⟩, ⟨rfl, rfl, rfl, Nat.le_refl _, fun _ h => h, fun _ h => .inl h, fun id hid => ?_, fun id hid => ?_, fun _ _ _ => rfl, fun k hk => .inl (hlk k hk)⟩⟩
  · have henv : ∀ (e0 : List (Nat × V)), envOk st0.nx π st.env e0 → RepV (Γ.ren π st0.nx) w (lk e0 t) (a.tmps.getD t undef) := by
      intro e0
      induction e0 with
      | nil => intro _; exact .unk _
      | cons p e0 ih =>
        obtain ⟨t', v⟩ := p
        intro h
        rw [lk_cons]
        split
        · rename_i ht; subst ht
          exact ren_repV h.1.2 (h.1.1.rep (henv0 _))
        · exact ih h.2
    exact henv _ hw.env
  · obtain ⟨b, y, hy, he, hb, hb', hok⟩ := hent id x hx
    obtain ⟨_, hlt, _⟩ := hw.sto id x hx
    refine ⟨b, hb', ?_⟩
    have hok' := he.ent hok
    cases x with
    | box cs =>
      obtain ⟨h1, us, t, h2, h3, h4⟩ := hok'
      refine ⟨h1, us, t, h2, by rw [h3]; simp, fun i c hc' => ?_⟩
      obtain ⟨u, hu, hr⟩ := h4 i (rnC π c) (by simp [hc'])
      exact ⟨u, hu, ren_rep (csLt_get hlt hc') hr⟩
    | row e s n f fz => exact hok'
    | lp env st j R =>
      obtain ⟨h1, r, h2, h3, h4, h5, h6⟩ := hok'
      exact ⟨h1, r, h2, h3, h4, h5, fun t => ren_repV (envLt_lk hlt t) (by rw [← lk_map]; exact h6 t)⟩
    | mp m es => exact hok'
  · obtain ⟨h1, h2⟩ := hlive i hi
    obtain ⟨h3, h4⟩ := hlive j hj
    exact hw.inj i j h1 h3 (hok0.inj _ _ k h2 h4 (by simpa [Cx.ren, h1] using hki) (by simpa [Cx.ren, h3] using hkj))
  · simp [Cx.ren, Nat.not_lt.2 hid]
  · obtain ⟨Ds, h1, h2, h3⟩ := hdfs
    refine ⟨Ds, h1, h2, fun D hD => ?_⟩
    obtain ⟨h4, h5, h6, h7⟩ := h3 D hD
    exact ⟨h4, h5, fun hl => h6 (hlk D hl), h7⟩
  · have := hw.le
    simp [Cx.ren, show id < st0.nx by omega, hw.fix id hid]
  · simp [Cx.ren, hw.fix id hid]
theorem Conc.weaken {B0 : Nat} {Γ : Cx} {w : World} {a : Act} {st0 : St} {π : Nat → Nat} (hc : Conc N B0 base Γ w st a) (hw : Wk base st st0 π) :
    Conc N B0 base (Γ.ren π st0.nx) w st0 a ∧ Ext base Γ w st.σ (Γ.ren π st0.nx) w st0.σ := weaken_core hc.size hc.env hc.ok hc.dfs hw
def Mv (base : Nat) (st st1 : St) : Prop :=
  ∀ (N B0 : Nat) (Γ : Cx) (w : World) (a : Act), Conc N B0 base Γ w st a → ∃ Γ', Conc N B0 base Γ' w st1 a ∧ Ext base Γ w st.σ Γ' w st1.σ
theorem Mv.refl (base : Nat) (st : St) : Mv base st st := fun _ _ Γ _ _ h => ⟨Γ, h, Ext.refl _ _ _ _⟩
theorem Mv.trans {base : Nat} {s1 s2 s3 : St} (h : Mv base s1 s2) (k : Mv base s2 s3) : Mv base s1 s3 := fun N B0 Γ w a hc => by
  obtain ⟨Γ1, h1, h2⟩ := h N B0 Γ w a hc
  obtain ⟨Γ2, h3, h4⟩ := k N B0 Γ1 w a h1
  exact ⟨Γ2, h3, h2.trans h4⟩
theorem Mv.weaken {base : Nat} {st st0 : St} {π : Nat → Nat} (h : Wk base st st0 π) : Mv base st st0 := fun _ _ _ _ _ hc => ⟨_, hc.weaken h⟩
theorem Sat.weaken {st0 : St} {π : Nat → Nat} (hw : Wk base st st0 π) (h : Sat P N base x st0 Q) : Sat P N base x st Q := by
  intro ro n B0 own code hro hl Γ0 Γ w0 w σ0 a hc hext
  obtain ⟨h1, h2⟩ := hc.weaken hw
  exact h ro n B0 own code hro hl Γ0 _ w0 w σ0 a h1 (hext.trans h2)
theorem Ops.weaken {ops : List LIns} {K : St → Prop} {st0 : St} {π : Nat → Nat} (hw : Wk base st st0 π) (h : Ops P N base ops st0 K) : Ops P N base ops st K := by
  intro ro n B0 own opsA idx os hl hidx Γ0 Γ w0 w σ0 a hc hext
  obtain ⟨h1, h2⟩ := hc.weaken hw
  exact h ro n B0 own opsA idx os hl hidx Γ0 _ w0 w σ0 a h1 (hext.trans h2)
theorem exists_least (p : Nat → Prop) (h : ∃ n, p n) : ∃ n, p n ∧ ∀ m, p m → n ≤ m := by
  obtain ⟨n, hn⟩ := h
  induction n using Nat.strongRecOn with
  | _ n ih =>
    by_cases h : ∃ m, m < n ∧ p m
    · obtain ⟨m, hm, hp⟩ := h; exact ih m hm hp
    · exact ⟨n, hn, fun m hm => Nat.le_of_not_lt (fun hlt => h ⟨m, hlt, hm⟩)⟩
def loopQ {ι : Type} (base : Nat) (inv : ι → St) (pre : ι → Prop) (μ : ι → Nat) (i : ι) (Q : Exit → St → Prop) : Exit → St → Prop
  | .normal, st' => ∃ j π, pre j ∧ μ j < μ i ∧ Wk base st' (inv j) π
  | e, st' => Q e st'
theorem Sat.loop {ι : Type} (inv : ι → St) (pre : ι → Prop) (μ : ι → Nat) (i0 : ι) (π0 : Nat → Nat) (h0 : pre i0) (hw : Wk base st (inv i0) π0)
    (round : ∀ i, pre i → Sat P N base x (inv i) (loopQ base inv pre μ i Q)) : Sat P N base (.loop x) st Q := by
  intro ro n B0 own code hro hl Γ0 Γ w0 w σ0 a hc hext
  obtain ⟨c1, rfl, h1⟩ := low_loop hl
  let R : ι → Act → World → Prop := fun i a w => pre i ∧ ∃ Γ, Conc N B0 base Γ w (inv i) a ∧ Ext base Γ0 w0 σ0 Γ w (inv i).σ
  let I : Act → World → Prop := fun a w => ∃ i, R i a w
  have hleast : ∀ a w, ∃ m, (I a w → (∃ i, R i a w ∧ μ i = m) ∧ ∀ i, R i a w → m ≤ μ i) := fun a w => by
    by_cases h : I a w
    · obtain ⟨i, hi⟩ := h
      obtain ⟨m, ⟨j, hj, hm⟩, hmin⟩ := exists_least (fun m => ∃ i, R i a w ∧ μ i = m) ⟨μ i, i, hi, rfl⟩
      exact ⟨m, fun _ => ⟨⟨j, hj, hm⟩, fun i hi => hmin _ ⟨i, hi, rfl⟩⟩⟩
    · exact ⟨0, fun hI => absurd hI h⟩
  let M : Act → World → Nat := fun a w => Classical.choose (hleast a w)
  have hM : ∀ a w, I a w → (∃ i, R i a w ∧ μ i = M a w) ∧ ∀ i, R i a w → M a w ≤ μ i := fun a w => Classical.choose_spec (hleast a w)
  obtain ⟨hc0, hext0⟩ := hc.weaken hw
  refine wpIn_loop I M ⟨i0, h0, _, hc0, hext.trans hext0⟩ (fun a w hI => ?_)
  obtain ⟨⟨i, ⟨hp, Γ1, hc1, hext1⟩, hmi⟩, _⟩ := hM a w hI
  refine wpIn_mono (round i hp ro n B0 own c1 hro h1 Γ0 Γ1 w0 w σ0 a hc1 hext1) (fun e a' w' ⟨Γ', st', h3, h4, h5⟩ => ?_)
  cases e with
  | normal =>
    obtain ⟨j, π, hj, hlt, hwk⟩ := h5
    obtain ⟨h6, h7⟩ := h3.weaken hwk
    have hR : R j a' w' := ⟨hj, _, h6, h4.trans h7⟩
    have hI' : I a' w' := ⟨j, hR⟩
    refine ⟨hI', ?_⟩
    have := (hM a' w' hI').2 j hR
    omega
  | _ => exact ⟨Γ', st', h3, h4, h5⟩
end
end Go.Pw
set_option linter.unusedVariables false
namespace Go.Pw
open Go Go.RowKit
def cx (I : Nat → Prop) : Cx := { I := I, ρ := fun _ => none, κ := fun _ => none }
def PF (P : Program) (f : FuncId) (args : List V) (R : V → Prop) : Prop :=
  ∀ (I : Nat → Prop) (w : World) (us : Array Value), (∀ k, I k → k < w.heap.size) → us.size = args.length → (∀ (i : Nat) v u, args[i]? = some v → us[i]? = some u → RepV (cx I) w v u) →
    Calls P f us w fun e w' => ∃ v u I', e = .returned u ∧ R v ∧ RepV (cx I') w' v u ∧ (∀ k, I k → I' k) ∧ (∀ k, I' k → I k ∨ w.heap.size ≤ k) ∧ (∀ k, I' k → k < w'.heap.size) ∧ Below w.heap.size w w'
theorem PF.mono {P : Program} {f : FuncId} {args : List V} {R R' : V → Prop} (h : PF P f args R) (hr : ∀ v, R v → R' v) : PF P f args R' := by
  intro I w us hI hu ha
  exact (h I w us hI hu ha).mono (fun e w' ⟨v, u, I', h1, h2, h3⟩ => ⟨v, u, I', h1, hr v h2, h3⟩)
inductive ArgC : C → C → Prop
  | d (x : D) : ArgC (.d x) (.d x)
  | deq (x y : D) (h : DEq x y) : ArgC (.d x) (.d y)
  | tru : ArgC .tru (.d (.v (.bool true)))
  | fls : ArgC .fls (.d (.v (.bool false)))
  | rp (r : List D) : ArgC (.rp r) (.rp r)
  | fn (f : FuncId) : ArgC (.fn f []) (.fn f [])
  | nil (s : Nat) (g : Nat → List D) : ArgC (.d (.v (.slice none 0 0))) (.d (.sl s 0 g))
  | z (s : Nat) (g : Nat → List D) : ArgC .z (.d (.sl s 0 g))
inductive ArgCs : List C → List C → Prop
  | nil : ArgCs [] []
  | cons {x y : C} {xs ys : List C} (h : ArgC x y) (t : ArgCs xs ys) : ArgCs (x :: xs) (y :: ys)
inductive ArgV : V → V → Prop
  | c {x y : C} (h : ArgC x y) : ArgV (.c x) (.c y)
  | agg {xs ys : List C} (h : ArgCs xs ys) : ArgV (.agg xs) (.agg ys)
inductive ArgL : List V → List V → Prop
  | nil : ArgL [] []
  | cons {x y : V} {xs ys : List V} (h : ArgV x y) (t : ArgL xs ys) : ArgL (x :: xs) (y :: ys)
theorem ArgC.rep {Γ : Cx} {w : World} {c c' : C} {u : Value} (h : ArgC c c') (hr : RepC Γ w c u) : RepC (cx Γ.I) w c' u := by
  cases h with
  | d x => exact hr
  | deq x y h => exact h.rep hr
  | tru => obtain rfl : u = _ := hr; exact .v _ rfl
  | fls => obtain rfl : u = _ := hr; exact .v _ rfl
  | rp r => exact hr
  | fn f =>
    obtain ⟨bs, h1, _, h3⟩ := hr
    have : bs = [] := by simpa using h1
    subst this
    exact ⟨[], rfl, by simp, h3⟩
  | nil s g =>
    generalize hd : D.v (.slice none 0 0) = d at hr
    cases (show RepD Γ.I w d u from hr) <;> first | cases hd
    exact .slE _ _ _ _
  | z s g => obtain ⟨A, rfl⟩ := hr; exact .slE _ _ _ _
theorem ArgCs.length {xs ys : List C} (h : ArgCs xs ys) : xs.length = ys.length := by
  induction h with
  | nil => rfl
  | cons _ _ ih => simp [ih]
theorem ArgCs.get {xs ys : List C} (h : ArgCs xs ys) : ∀ {i : Nat} {y : C}, ys[i]? = some y → ∃ x, xs[i]? = some x ∧ ArgC x y := by
  induction h with
  | nil => intro i y h; simp at h
  | cons h t ih =>
    intro i y hy
    cases i with
    | zero => simp at hy; subst hy; exact ⟨_, rfl, h⟩
    | succ i => exact ih (by simpa using hy)
theorem ArgV.rep {Γ : Cx} {w : World} {v v' : V} {u : Value} (h : ArgV v v') (hr : RepV Γ w v u) : RepV (cx Γ.I) w v' u := by
  cases h with
  | c h => cases hr with | c _ _ hr => exact .c _ _ (h.rep hr)
  | agg h =>
    cases hr with
    | agg _ us hu hr =>
      refine .agg _ _ (by rw [hu, h.length]) (fun i c u hc hu' => ?_)
      obtain ⟨x, hx, hxy⟩ := h.get hc
      exact hxy.rep (hr i x u hx hu')
theorem ArgL.length {xs ys : List V} (h : ArgL xs ys) : xs.length = ys.length := by
  induction h with
  | nil => rfl
  | cons _ _ ih => simp [ih]
theorem ArgL.get {xs ys : List V} (h : ArgL xs ys) : ∀ {i : Nat} {y : V}, ys[i]? = some y → ∃ x, xs[i]? = some x ∧ ArgV x y := by
  induction h with
  | nil => intro i y h; simp at h
  | cons h t ih =>
    intro i y hy
    cases i with
    | zero => simp at hy; subst hy; exact ⟨_, rfl, h⟩
    | succ i => exact ih (by simpa using hy)
section
variable {P : Program} {N base : Nat} {st : St} {K : St → Prop} {rest : List LIns} {i : LIns}
end
end Go.Pw
set_option linter.unusedVariables false
namespace Go.Pw
open Go Go.RowKit
section
variable {ev ev' : Operand → V} {R : Type}
theorem ids_congr : ∀ (xs : List Operand) (k : List Nat → Option R), (∀ x ∈ xs, ev x = ev' x) → ids ev xs k = ids ev' xs k
  | [], _, _ => rfl
  | x :: xs, k, h => by
    simp only [ids, h x (by simp)]
    split
    · exact ids_congr xs _ fun y hy => h y (by simp [hy])
    · rfl
theorem rps_congr : ∀ (xs : List Operand) (k : List (List D) → Option R), (∀ x ∈ xs, ev x = ev' x) → rps ev xs k = rps ev' xs k
  | [], _, _ => rfl
  | x :: xs, k, h => by
    simp only [rps, h x (by simp)]
    split
    · exact rps_congr xs _ fun y hy => h y (by simp [hy])
    · rfl
theorem bld_congr : ∀ (ps : List (Nat × Nat × Operand)) (cs : List C) (k : List C → Option R), (∀ x ∈ ps.map (·.2.2), ev x = ev' x) → bld ev ps cs k = bld ev' ps cs k
  | [], _, _, _ => rfl
  | (off, n, x) :: ps, cs, k, h => by
    simp only [bld, h x (by simp)]
    split
    · split
      · simp only [frc_eq]; exact bld_congr ps _ _ fun y hy => h y (by simp at hy ⊢; exact .inr hy)
      · rfl
    · rfl
theorem rowsOf_congr {s : Nat} : ∀ (xs : List Operand) (k : List (List D) → Option R), (∀ x ∈ xs, ev x = ev' x) → rowsOf ev s xs k = rowsOf ev' s xs k
  | [], _, _ => rfl
  | x :: xs, k, h => by
    simp only [rowsOf, h x (by simp)]
    have ih := fun k : List (List D) → Option R => rowsOf_congr (s := s) xs k fun y hy => h y (by simp [hy])
    simp only [ih]
theorem mmx_congr {g : Bool} {k : IntKind} : ∀ (xs : List Operand) (a : Int), (∀ x ∈ xs, ev x = ev' x) → mmx g ev k xs a = mmx g ev' k xs a
  | [], _, _ => rfl
  | x :: xs, a, h => by
    simp only [mmx, h x (by simp)]
    have ih := fun (a : Int) => mmx_congr (g := g) (k := k) xs a fun y hy => h y (by simp [hy])
    simp only [ih]
theorem cellsOf_congr : ∀ (xs : List Operand) (k : List C → Option R), (∀ x ∈ xs, ev x = ev' x) → cellsOf ev xs k = cellsOf ev' xs k
  | [], _, _ => rfl
  | x :: xs, k, h => by
    simp only [cellsOf, h x (by simp)]
    have ih := fun k : List C → Option R => cellsOf_congr xs k fun y hy => h y (by simp [hy])
    simp only [ih]
theorem xop_congr {σ : Store} {nx : Nat} (op : LOp) (h : ∀ x ∈ op.opnds, ev x = ev' x) : xop ev σ nx op = xop ev' σ nx op := by
  cases op with
  | build z ps =>
    have h : ∀ x ∈ ps.map (·.2.2), ev x = ev' x := h
    have key := fun (cs : List C) (k : List C → Option Res) => bld_congr ps cs k h
    simp only [xop, key]
  | lit own e s ps =>
    have h : ∀ x ∈ ps, ev x = ev' x := h
    have key := fun (k : List (List D) → Option Res) => rowsOf_congr (s := s) ps k h
    simp only [xop, key]
  | mkfn f caps =>
    have h : ∀ x ∈ caps, ev x = ev' x := h
    have key := fun (k : List Nat → Option Res) => ids_congr caps k h
    have key2 := fun (k : List (List D) → Option Res) => rps_congr caps k h
    cases caps with
    | nil => rfl
    | cons x xs => simp only [xop, key, key2, h x (by simp)]
  | mm g xs =>
    cases xs with
    | nil => rfl
    | cons x xs =>
      simp only [LOp.opnds] at h
      have key := fun (k : IntKind) (a : Int) => mmx_congr (g := g) (k := k) xs a fun y hy => h y (by simp [hy])
      simp only [xop, h x (by simp), key]
  | litP ps =>
    have h : ∀ x ∈ ps, ev x = ev' x := h
    have key := fun (k : List C → Option Res) => cellsOf_congr ps k h
    simp only [xop, key]
  | slcS x lo hi =>
    simp only [LOp.opnds, List.mem_cons, List.mem_append] at h
    simp only [xop, h x (.inl rfl)]
    cases lo with
    | none => cases hi with
      | none => rfl
      | some b => simp only [h b (by simp)]
    | some a => cases hi with
      | none => simp only [h a (by simp)]
      | some b => simp only [h a (by simp), h b (by simp)]
  | slc s x lo hi =>
    simp only [LOp.opnds, List.mem_cons, List.mem_append] at h
    simp only [xop, h x (.inl rfl)]
    cases lo with
    | none => cases hi with
      | none => rfl
      | some b => simp only [h b (by simp)]
    | some a => cases hi with
      | none => simp only [h a (by simp)]
      | some b => simp only [h a (by simp), h b (by simp)]
  | _ => simp only [LOp.opnds, List.mem_cons, List.not_mem_nil, or_false, forall_eq_or_imp, forall_eq] at h <;> simp only [xop, h]
end
def delD : List Nat → Store → Store
  | [], σ => σ
  | i :: is, σ => del (delD is σ) i
def catS : Store → Store → Store
  | [], τ => τ
  | p :: σ, τ => p :: catS σ τ
def dom : Store → List Nat
  | [] => []
  | (i, _) :: σ => i :: dom σ
def app (σ0 σ1 σ : Store) : Store := catS σ1 (delD (dom σ0) σ)
theorem get_cons {σ : Store} {i j : Nat} {e : Ent} : get ((i, e) :: σ) j = if i = j then some e else get σ j := by
  by_cases h : i = j
  · subst h; rw [get_cons_same, if_pos rfl]
  · rw [get_cons_other (Ne.symm h), if_neg h]
theorem get_none_dom {σ : Store} {id : Nat} : get σ id = none ↔ id ∉ dom σ := by
  induction σ with
  | nil => simp [get, dom]
  | cons p σ ih =>
    obtain ⟨i, e⟩ := p
    rw [get_cons]
    by_cases h : i = id
    · simp [h, dom]
    · rw [if_neg h, ih]; simp [dom, Ne.symm h]
theorem get_some_dom {σ : Store} {id : Nat} {e : Ent} (h : get σ id = some e) : id ∈ dom σ := by
  by_cases h' : id ∈ dom σ
  · exact h'
  · rw [get_none_dom.2 h'] at h; cases h
theorem get_delD {σ : Store} {id : Nat} : ∀ (l : List Nat), get (delD l σ) id = if id ∈ l then none else get σ id
  | [] => by simp [delD]
  | i :: l => by
    simp only [delD]
    by_cases h : id = i
    · subst h; rw [get_del_same]; simp
    · rw [get_del_other h, get_delD l]; simp [h]
theorem get_catS {σ τ : Store} {id : Nat} : get (catS σ τ) id = match get σ id with | some e => some e | none => get τ id := by
  induction σ with
  | nil => rfl
  | cons p σ ih =>
    obtain ⟨i, e⟩ := p
    simp only [catS, get_cons]
    by_cases h : i = id
    · simp [h]
    · simp only [h, if_false]; exact ih
theorem get_app {σ0 σ1 σ : Store} {id : Nat} : get (app σ0 σ1 σ) id = match get σ1 id with | some e => some e | none => if id ∈ dom σ0 then none else get σ id := by
  unfold app
  rw [get_catS, get_delD]
theorem get_app_other {σ0 σ1 σ : Store} {id : Nat} (h0 : id ∉ dom σ0) (h1 : id ∉ dom σ1) : get (app σ0 σ1 σ) id = get σ id := by
  rw [get_app, get_none_dom.2 h1]; simp [h0]
def Sub (σ0 σ : Store) : Prop := ∀ id e, get σ0 id = some e → get σ id = some e
theorem liveId_of_get {Γ : Cx} {σ τ : Store} {id : Nat} (h : get σ id = get τ id) : LiveId Γ σ id ↔ LiveId Γ τ id := by
  rw [liveId_iff, liveId_iff, h]
theorem StoreOk.sub {Γ : Cx} {w : World} {σ σ0 : Store} (h : StoreOk Γ w σ) (hs : Sub σ0 σ) : StoreOk Γ w σ0 := by
  have hl : ∀ i, LiveId Γ σ0 i → LiveId Γ σ i := fun i hi => by
    obtain ⟨e, he, hle⟩ := liveId_iff.1 hi
    exact liveId_iff.2 ⟨e, hs i e he, hle⟩
  exact ⟨h.im, fun id e he => h.ok id e (hs id e he), fun i j k hi hj => h.inj i j k (hl i hi) (hl j hj), h.lay⟩
theorem live_sub {Γ : Cx} {σ σ0 : Store} (hs : Sub σ0 σ) {k : Nat} (h : Live Γ σ0 k) : Live Γ σ k := by
  obtain ⟨i, hi, hk⟩ := h
  obtain ⟨e, he, hle⟩ := liveId_iff.1 hi
  exact ⟨i, liveId_iff.2 ⟨e, hs i e he, hle⟩, hk⟩
theorem frame {base : Nat} {Γ Γ' : Cx} {w w' : World} {σ σ0 σ1 : Store} (h : StoreOk Γ w σ) (hs : Sub σ0 σ) (h1 : StoreOk Γ' w' σ1) (hle : CxLe Γ Γ') (hext : Ext base Γ w σ0 Γ' w' σ1) : StoreOk Γ' w' (app σ0 σ1 σ) ∧ Ext base Γ w σ Γ' w' (app σ0 σ1 σ) := by
  have h0 := h.sub hs
  have hsame : Same Γ.I w w' := hext.same h0
  -- an entry that is left: it lay in σ, not in σ0
  have hleft : ∀ id e, get σ1 id = none → get (app σ0 σ1 σ) id = some e → id ∉ dom σ0 ∧ get σ id = some e := fun id e h2 h3 => by
    rw [get_app, h2] at h3
    simp only at h3
    split at h3
    · cases h3
    · exact ⟨by assumption, h3⟩
  have hnl : ∀ id e b, id ∉ dom σ0 → get σ id = some e → LiveE Γ id e → Γ.ρ id = some b → ¬ Live Γ σ0 b := fun id e b h2 h3 h4 h5 ⟨j, hj, hjb⟩ => by
    obtain ⟨x, hx, hxl⟩ := liveId_iff.1 hj
    have := h.inj j id b (liveId_iff.2 ⟨x, hs j x hx, hxl⟩) (liveId_iff.2 ⟨e, h3, h4⟩) hjb h5
    subst this
    exact h2 (get_some_dom hx)
  have hkeep : ∀ id e b, id ∉ dom σ0 → get σ id = some e → Γ.ρ id = some b → HasB Γ id e → w'.heap[b]? = w.heap[b]? ∧ (¬ Γ.I b → ¬ Γ'.I b) := fun id e b h2 h3 h4 h5 => by
    obtain ⟨b', hb', hok⟩ := h.ok id e h3
    rw [h4] at hb'; cases hb'
    have hlt := hok.block h5
    rcases h.or_live h3 h4 h5 with h6 | h6
    · exact ⟨hsame b h6, fun hn => absurd h6 hn⟩
    · obtain ⟨x, hx, hxl⟩ := liveId_iff.1 h6
      rw [h3] at hx; cases hx
      have hn := hnl id e b h2 h3 hxl h4
      refine ⟨hext.keep b hlt hn, fun hI hI' => ?_⟩
      rcases hext.new b hI' with h7 | h7 | h7
      · exact hI h7
      · omega
      · exact hn h7
  have hlive : ∀ id b, LiveId Γ' (app σ0 σ1 σ) id → Γ'.ρ id = some b → (∃ e, get σ1 id = some e ∧ LiveE Γ' id e) ∨ (get σ1 id = none ∧ id ∉ dom σ0 ∧ LiveId Γ σ id ∧ Γ.ρ id = some b) := fun id b hl hb => by
    obtain ⟨e, he, hel⟩ := liveId_iff.1 hl
    cases hg : get σ1 id with
    | some e' =>
      rw [get_app, hg] at he
      cases he
      exact .inl ⟨_, rfl, hel⟩
    | none =>
      obtain ⟨h2, h3⟩ := hleft id e hg he
      obtain ⟨b', hb', _⟩ := h.ok id e h3
      have := hle.ρ id b' hb'
      rw [hb] at this; cases this
      exact .inr ⟨rfl, h2, liveId_iff.2 ⟨e, h3, (liveE_mono hle hb').1 hel⟩, hb'⟩
  have hmix : ∀ i j k, (∃ e, get σ1 i = some e ∧ LiveE Γ' i e) → Γ'.ρ i = some k → j ∉ dom σ0 → LiveId Γ σ j → Γ.ρ j = some k → False := fun i j k ⟨e, he, hel⟩ hik hj hjl hjk => by
    rcases hext.live k ⟨i, liveId_iff.2 ⟨e, he, hel⟩, hik⟩ with h2 | h2
    · obtain ⟨x, hx, hxl⟩ := liveId_iff.1 hjl
      exact hnl j x k hj hx hxl hjk h2
    · have := h.live_lt ⟨j, hjl, hjk⟩; omega
  refine ⟨⟨h1.im, fun id e he => ?_, fun i j k hi hj hki hkj => ?_, h1.lay⟩, ⟨hext.os, hext.tape, hext.output, hext.size, hext.im, fun k hk => ?_, hext.ρ, hext.κ, fun k hk hn => hext.keep k hk fun hl => hn (live_sub hs hl), fun k hk => ?_⟩⟩
  · cases hg : get σ1 id with
    | some e' =>
      rw [get_app, hg] at he
      cases he
      exact h1.ok id _ hg
    | none =>
      obtain ⟨h2, h3⟩ := hleft id e hg he
      obtain ⟨b, hb, hok⟩ := h.ok id e h3
      exact ⟨b, hle.ρ id b hb, hok.mono hb hle hsame (fun hB => (hkeep id e b h2 h3 hb hB).1) (fun hB => (hkeep id e b h2 h3 hb hB).2)⟩
  · rcases hlive i k hi hki with h2 | ⟨h2, h3, h4, h5⟩ <;> rcases hlive j k hj hkj with h6 | ⟨h6, h7, h8, h9⟩
    · obtain ⟨e, he, hel⟩ := h2
      obtain ⟨e', he', hel'⟩ := h6
      exact h1.inj i j k (liveId_iff.2 ⟨e, he, hel⟩) (liveId_iff.2 ⟨e', he', hel'⟩) hki hkj
    · exact (hmix i j k h2 hki h7 h8 h9).elim
    · exact (hmix j i k h6 hkj h3 h4 h5).elim
    · exact h.inj i j k h4 h8 h5 h9
  · rcases hext.new k hk with h2 | h2 | h2
    · exact .inl h2
    · exact .inr (.inl h2)
    · exact .inr (.inr (live_sub hs h2))
  · obtain ⟨id, hl, hid⟩ := hk
    rcases hlive id k hl hid with ⟨e, he, hel⟩ | ⟨_, _, h4, h5⟩
    · rcases hext.live k ⟨id, liveId_iff.2 ⟨e, he, hel⟩, hid⟩ with h6 | h6
      · exact .inl (live_sub hs h6)
      · exact .inr h6
    · exact .inl ⟨id, h4, h5⟩
end Go.Pw
set_option linter.unusedVariables false
namespace Go.Pw
open Go Go.RowKit
def RI (v v' : V) : Prop := ∀ (Γ : Cx) (w : World) (u : Value), RepV Γ w v u → RepV Γ w v' u
theorem RI.refl (v : V) : RI v v := fun _ _ _ h => h
theorem VEq.ri {v v' : V} (h : VEq v v') : RI v v' := fun _ _ _ hr => h.rep hr
def wpO (F : Fence) (n : Nat) (P : Program) (opsA : Array Oper) (Q : Exit → Act → World → Prop) (o : Oper) (K : Act → World → Prop) (a : Act) (w : World) : Prop :=
  if Region.wanted o (yielded opsA a.tmps) = true then o.wpIn F n P a w K Q else (∀ f, o.about P w a.eval = some f → F.fn f) ∧ K (a.put o.dst undef) w
theorem lk_putE {env : List (Nat × V)} {dst : Option Nat} {v : V} {t : Nat} : lk (putE env dst v) t = if dst = some t then v else lk env t := by
  cases dst with
  | none => simp [putE]
  | some d => simp only [putE, lk_cons, Option.some.injEq]
def VStep (P : Program) (N base : Nat) (i : LIns) (lo hi : Nat) (env : List (Nat × V)) (σ0 : Store) (v : V) (σ1 : Store) : Prop :=
  ∀ (ro : Option Nat) (n B0 : Nat) (own : List Nat) (opsA : Array Oper) (o : Oper), lowIns P N own opsA o = some i →
    ∀ (Γ : Cx) (w : World) (a : Act) (env' : List (Nat × V)) (σ : Store) (nxe : Nat), Conc N B0 base Γ w ⟨env', σ, nxe⟩ a → (∀ t ∈ i.reads, RI (lk env' t) (lk env t)) → Sub σ0 σ →
      (∀ id, lo ≤ id → id < hi → Γ.ρ id = none) → hi ≤ nxe → base ≤ lo →
      ∀ (K : Act → World → Prop) (Q : Exit → Act → World → Prop),
        (∀ Γ' w' a', Conc N B0 base Γ' w' ⟨putE env' i.dst v, app σ0 σ1 σ, nxe⟩ a' → Ext base Γ w σ Γ' w' (app σ0 σ1 σ) → (∀ id, ¬ (lo ≤ id ∧ id < hi) → Γ'.ρ id = Γ.ρ id) → K a' w') →
        wpO (FW ro) n P opsA Q o K a w
section
variable {P : Program} {N base : Nat} {i : LIns}
theorem Conc.put2 {B0 : Nat} {Γ Γ' : Cx} {w w' : World} {a : Act} {env : List (Nat × V)} {σ σ' : Store} {nx : Nat} {v : V} {u : Value} {dst : Option Nat} (h : Conc N B0 base Γ w ⟨env, σ, nx⟩ a) (hd : ∀ d, dst = some d → d < N) (hv : RepV Γ' w' v u)
    (hst : StoreOk Γ' w' σ') (hle : CxLe Γ Γ') (hext : Ext base Γ w σ Γ' w' σ') (hfree : ∀ id, nx ≤ id → Γ'.ρ id = none) :
    Conc N B0 base Γ' w' ⟨putE env dst v, σ', nx⟩ (a.put dst u) := by
  have hs := hext.same h.ok
  refine ⟨?_, fun t => ?_, hst, hfree, h.le, ?_⟩
  · cases dst <;> simp [Act.put, h.size]
  · cases dst with
    | none => exact (h.env t).mono hle hs
    | some d =>
      simp only [putE, Act.put, lk_cons]
      have hdN := hd d rfl
      by_cases hdt : d = t
      · subst hdt
        rw [if_pos rfl, Array.getD_eq_getD_getElem?, Array.getElem?_setIfInBounds_self_of_lt (by rw [h.size]; exact hdN)]
        exact hv
      · rw [if_neg hdt, Array.getD_eq_getD_getElem?, Array.getElem?_setIfInBounds_ne hdt, ← Array.getD_eq_getD_getElem?]
        exact (h.env t).mono hle hs
  · obtain ⟨Ds, h1, h2, h3⟩ := h.dfs
    refine ⟨Ds, by cases dst <;> exact h1, ⟨h2.1, Nat.le_trans h2.2 hext.size⟩, fun D hD => ?_⟩
    obtain ⟨h4, h5, h6, h7⟩ := h3 D hD
    have hlt : D < w.heap.size := (Array.getElem?_eq_some_iff.1 h7).1
    refine ⟨h4, fun hi => ?_, fun hl => ?_, (hext.keep D hlt h6).trans h7⟩
    · rcases hext.new D hi with h8 | h8 | h8
      · exact h5 h8
      · omega
      · exact h6 h8
    · rcases hext.live D hl with h8 | h8
      · exact h6 h8
      · omega
theorem live_congr {Γ : Cx} {σ τ : Store} (h : ∀ id, get σ id = get τ id) (k : Nat) : Live Γ σ k ↔ Live Γ τ k :=
  ⟨fun ⟨id, hl, hk⟩ => ⟨id, (liveId_of_get (h id)).1 hl, hk⟩, fun ⟨id, hl, hk⟩ => ⟨id, (liveId_of_get (h id)).2 hl, hk⟩⟩
theorem Conc.same {B0 : Nat} {Γ : Cx} {w : World} {a : Act} {env env' : List (Nat × V)} {σ σ' : Store} {nx : Nat} (h : Conc N B0 base Γ w ⟨env, σ, nx⟩ a) (he : ∀ t, RI (lk env t) (lk env' t)) (hs : ∀ id, get σ id = get σ' id) :
    Conc N B0 base Γ w ⟨env', σ', nx⟩ a := by
  refine ⟨h.size, fun t => he t _ _ _ (h.env t), h.ok.sub (fun id e hg => by rw [hs]; exact hg), h.free, h.le, ?_⟩
  obtain ⟨Ds, h1, h2, h3⟩ := h.dfs
  refine ⟨Ds, h1, h2, fun D hD => ?_⟩
  obtain ⟨h4, h5, h6, h7⟩ := h3 D hD
  exact ⟨h4, h5, fun hl => h6 ((live_congr hs D).2 hl), h7⟩
theorem Ext.same_store {Γ Γ' : Cx} {w w' : World} {σ σ1 σ2 : Store} (h : Ext base Γ w σ Γ' w' σ1) (hs : ∀ id, get σ1 id = get σ2 id) : Ext base Γ w σ Γ' w' σ2 :=
  ⟨h.os, h.tape, h.output, h.size, h.im, h.new, h.ρ, h.κ, h.keep, fun k hk => h.live k ((live_congr hs k).2 hk)⟩
def relab (env env' : List (Nat × V)) : List Nat → List (Nat × V)
  | [] => env'
  | t :: ts => (t, lk env t) :: relab env env' ts
theorem lk_relab {env env' : List (Nat × V)} : ∀ (l : List Nat) (t : Nat), lk (relab env env' l) t = if t ∈ l then lk env t else lk env' t
  | [], t => by simp [relab]
  | x :: l, t => by
    simp only [relab, lk_cons, lk_relab l t, List.mem_cons]
    by_cases h : x = t
    · subst h; simp
    · simp [h, Ne.symm h]
theorem evo_relab {env env' : List (Nat × V)} {l : List Nat} {x : Operand} (h : ∀ t ∈ rdOperand x, t ∈ l) : evo (relab env env' l) x = evo env x := by
  cases x with
  | tmp t => simp only [evo, lk_relab]; rw [if_pos (h t (by simp [rdOperand]))]
  | const v => rfl
  | global g => rfl
  | func f => rfl
theorem Conc.relab {B0 : Nat} {Γ : Cx} {w : World} {a : Act} {env env' : List (Nat × V)} {σ : Store} {nx : Nat} {l : List Nat} (h : Conc N B0 base Γ w ⟨env', σ, nx⟩ a) (hl : ∀ t ∈ l, RI (lk env' t) (lk env t)) : Conc N B0 base Γ w ⟨Pw.relab env env' l, σ, nx⟩ a :=
  h.same (fun t => by
    rw [lk_relab]
    split
    · exact hl t (by assumption)
    · exact RI.refl _) (fun _ => rfl)
theorem reads_opnd {x : Operand} (h : x ∈ i.op.opnds) : ∀ t ∈ rdOperand x, t ∈ i.reads := fun _ ht =>
  List.mem_append_left _ (List.mem_flatMap.2 ⟨x, h, ht⟩)
theorem reads_guard {t : Nat} {b : Bool} (h : i.guard = some (t, b)) : t ∈ i.reads := by
  refine List.mem_append_right _ ?_
  rw [h]; simp
theorem guardOf_congr {env env' : List (Nat × V)} (h : ∀ t b, i.guard = some (t, b) → lk env t = lk env' t) : guardOf env i.guard = guardOf env' i.guard := by
  cases hg : i.guard with
  | none => rfl
  | some p =>
    obtain ⟨t, b⟩ := p
    cases b <;> simp only [guardOf, h t _ hg]
theorem VStep.xop {env : List (Nat × V)} {σ0 σ1 : Store} {lo nx' : Nat} {v : V} {ob : Prop} (hg : guardOf env i.guard = .run) (hx : xop (evo env) σ0 lo i.op = some (ob, v, σ1, nx')) (hob : ob) :
    VStep P N base i lo (lo + 1) env σ0 v σ1 := by
  intro ro n B0 own opsA o hi Γ w a env' σ nxe hc hre hsub hfr hhi hbase K Q hK
  obtain ⟨⟨b, hop⟩, hdst, hdN, hgd⟩ := lowIns_some hi
  have hc2 := hc.relab (env := env) (l := i.reads) hre
  have hev : ∀ x ∈ i.op.opnds, evo env x = evo (Pw.relab env env' i.reads) x := fun x hx => (evo_relab (reads_opnd hx)).symm
  have hgr : guardOf (Pw.relab env env' i.reads) i.guard = .run := by
    rw [← hg]
    refine guardOf_congr (fun t b hgt => ?_)
    rw [lk_relab, if_pos (reads_guard hgt)]
  rw [xop_congr i.op hev, hop] at hx
  obtain ⟨u, w', Γ', hr, hv, hst, hle, hext, hρ, hnx⟩ := xop_sound (P := P) (base := base) (Γ := Γ) (w := w) (o := o) (ρ := a.eval) rfl (fun x => hc2.ev x) (hc.ok.sub hsub) (hfr lo (Nat.le_refl _) (by omega)) hbase hx hob
  obtain ⟨hst', hext'⟩ := frame hc.ok hsub hst hle hext
  have hfree : ∀ id, nxe ≤ id → Γ'.ρ id = none := fun id hid => by
    rw [hρ id (by omega)]; exact hc.free id hid
  have hfin := hK Γ' w' (a.put o.dst u) (by rw [hdst]; exact hc.put2 hdN hv hst' hle hext' hfree) hext' (fun id hid => hρ id (by omega))
  have hw : Region.wanted o (yielded opsA a.tmps) = true := (guardOf_run (i := i) (σ := σ) (nx := nxe) hgr).wanted hc2 hgd
  simp only [wpO, hw, if_true, Oper.wpIn]
  refine ⟨fun _ _ => trivial, ?_⟩
  rw [semAt_low hx]
  rcases hr with h1 | ⟨h1, rfl⟩
  · rw [h1]; exact hfin
  · rw [h1]; exact hfin
theorem VStep.skip {env : List (Nat × V)} {lo : Nat} (hg : guardOf env i.guard = .skip) : VStep P N base i lo lo env [] (.tup []) [] := by
  intro ro n B0 own opsA o hi Γ w a env' σ nxe hc hre hsub hfr hhi hbase K Q hK
  obtain ⟨⟨b, hop⟩, hdst, hdN, hgd⟩ := lowIns_some hi
  have hc2 := hc.relab (env := env) (l := i.reads) hre
  have hgr : guardOf (Pw.relab env env' i.reads) i.guard = .skip := by
    rw [← hg]
    refine guardOf_congr (fun t b hgt => ?_)
    rw [lk_relab, if_pos (reads_guard hgt)]
  have hw : Region.wanted o (yielded opsA a.tmps) = false := (guardOf_skip (i := i) (σ := σ) (nx := nxe) hgr).unwanted hc2 hgd
  simp only [wpO, hw, Bool.false_eq_true, if_false]
  refine ⟨fun _ _ => trivial, hK Γ w _ ?_ (Ext.refl _ _ _ _) (fun _ _ => rfl)⟩
  rw [hdst]
  exact hc.put2 hdN rep_undef hc.ok (CxLe.refl _) (Ext.refl _ _ _ _) hc.free
end
structure Rec where
  ins : LIns
  lo : Nat
  hi : Nat
  env : List (Nat × V)
  σ0 : Store
  v : V
  σ1 : Store
  rd : Bool
def Rec.ids (r : Rec) : List Nat := dom r.σ0 ++ dom r.σ1
def Rec.fp (r : Rec) : Bool × List Nat := (r.rd, r.ids)
theorem get_app_same {σ0 σ : Store} (h : Sub σ0 σ) (id : Nat) : get (app σ0 σ0 σ) id = get σ id := by
  rw [get_app]
  cases hg : get σ0 id with
  | some e => exact (h id e hg).symm
  | none => simp [get_none_dom.1 hg]
def T (envF : List (Nat × V)) (σF : Store) : List Rec → List (Nat × V) → Store → Prop
  | [], env, σ => (∀ t, RI (lk env t) (lk envF t)) ∧ ∀ id, get σ id = get σF id
  | r :: rs, env, σ => (∀ t ∈ r.ins.reads, RI (lk env t) (lk r.env t)) ∧ Sub r.σ0 σ ∧ T envF σF rs (putE env r.ins.dst r.v) (app r.σ0 r.σ1 σ)
theorem T_congr {envF : List (Nat × V)} {σF : Store} : ∀ (rs : List Rec) {env env' : List (Nat × V)} {σ σ' : Store}, (∀ t, lk env t = lk env' t) → (∀ id, get σ id = get σ' id) → T envF σF rs env σ → T envF σF rs env' σ'
  | [], env, env', σ, σ', he, hs, h => ⟨fun t => by rw [← he]; exact h.1 t, fun id => by rw [← hs]; exact h.2 id⟩
  | r :: rs, env, env', σ, σ', he, hs, h => by
    obtain ⟨h1, h2, h3⟩ := h
    refine ⟨fun t ht => by rw [← he]; exact h1 t ht, fun id e hg => by rw [← hs]; exact h2 id e hg, T_congr rs (fun t => ?_) (fun id => ?_) h3⟩
    · rw [lk_putE, lk_putE, he]
    · rw [get_app, get_app, hs]
def Indep (p i : Rec) : Prop :=
  (∀ d, p.ins.dst = some d → d ∉ i.ins.reads ∧ i.ins.dst ≠ some d) ∧ (∀ d, i.ins.dst = some d → d ∉ p.ins.reads) ∧ ((p.σ1 = p.σ0 ∧ i.σ1 = i.σ0) ∨ ∀ id ∈ p.ids, id ∉ i.ids)
theorem T_swap {envF : List (Nat × V)} {σF : Store} {p i : Rec} {rs : List Rec} {env : List (Nat × V)} {σ : Store} (h : T envF σF (p :: i :: rs) env σ) (hi : Indep p i) : T envF σF (i :: p :: rs) env σ := by
  obtain ⟨h1, h2, h3, h4, h5⟩ := h
  obtain ⟨i1, i2, i3⟩ := hi
  have hput : ∀ t, lk (putE (putE env p.ins.dst p.v) i.ins.dst i.v) t = lk (putE (putE env i.ins.dst i.v) p.ins.dst p.v) t := fun t => by
    simp only [lk_putE]
    by_cases hd : i.ins.dst = some t
    · rw [if_pos hd]
      by_cases hd' : p.ins.dst = some t
      · exact absurd hd (i1 t hd').2
      · rw [if_neg hd', if_pos hd]
    · rw [if_neg hd]
      by_cases hd' : p.ins.dst = some t
      · rw [if_pos hd', if_pos hd']
      · rw [if_neg hd', if_neg hd', if_neg hd]
  have hreads : ∀ t ∈ i.ins.reads, RI (lk env t) (lk i.env t) := fun t ht => by
    have := h3 t ht
    rw [lk_putE, if_neg (fun hd => (i1 t hd).1 ht)] at this
    exact this
  have hreadp : ∀ t ∈ p.ins.reads, RI (lk (putE env i.ins.dst i.v) t) (lk p.env t) := fun t ht => by
    rw [lk_putE, if_neg (fun hd => i2 t hd ht)]; exact h1 t ht
  rcases i3 with ⟨ep, ei⟩ | i3
  · have hsi : Sub i.σ0 σ := fun id e hg => by
      have := h4 id e hg
      rw [ep, get_app_same h2] at this
      exact this
    have hsp : Sub p.σ0 (app i.σ0 i.σ1 σ) := fun id e hg => by
      rw [ei, get_app_same hsi]
      exact h2 id e hg
    refine ⟨hreads, hsi, hreadp, hsp, T_congr rs hput (fun id => ?_) h5⟩
    have e1 : get (app i.σ0 i.σ1 (app p.σ0 p.σ1 σ)) id = get σ id := by
      rw [ei, get_app_same h4, ep, get_app_same h2]
    have e2 : get (app p.σ0 p.σ1 (app i.σ0 i.σ1 σ)) id = get σ id := by
      rw [ep, get_app_same hsp, ei, get_app_same hsi]
    rw [e1, e2]
  have hp0 : ∀ id, id ∈ dom p.σ0 → id ∉ dom i.σ0 ∧ id ∉ dom i.σ1 := fun id h => by
    have := i3 id (List.mem_append_left _ h)
    exact ⟨fun hh => this (List.mem_append_left _ hh), fun hh => this (List.mem_append_right _ hh)⟩
  have hp1 : ∀ id, id ∈ dom p.σ1 → id ∉ dom i.σ0 ∧ id ∉ dom i.σ1 := fun id h => by
    have := i3 id (List.mem_append_right _ h)
    exact ⟨fun hh => this (List.mem_append_left _ hh), fun hh => this (List.mem_append_right _ hh)⟩
  refine ⟨hreads, fun id e hg => ?_, hreadp, fun id e hg => ?_, T_congr rs hput (fun id => ?_) h5⟩
  · have := h4 id e hg
    have hid := get_some_dom hg
    rw [get_app_other (fun hh => (hp0 id hh).1 hid) (fun hh => (hp1 id hh).1 hid)] at this
    exact this
  · have hid := get_some_dom hg
    rw [get_app_other (hp0 id hid).1 (hp0 id hid).2]
    exact h2 id e hg
  · by_cases hi : id ∈ dom i.σ0 ∨ id ∈ dom i.σ1
    · have hn0 : id ∉ dom p.σ0 := fun hh => hi.elim (hp0 id hh).1 (hp0 id hh).2
      have hn1 : id ∉ dom p.σ1 := fun hh => hi.elim (hp1 id hh).1 (hp1 id hh).2
      rw [get_app_other (σ := app i.σ0 i.σ1 σ) hn0 hn1]
      have e1 : get (app p.σ0 p.σ1 σ) id = get σ id := get_app_other hn0 hn1
      rw [get_app, e1, get_app]
    · have hn0 : id ∉ dom i.σ0 := fun hh => hi (.inl hh)
      have hn1 : id ∉ dom i.σ1 := fun hh => hi (.inr hh)
      rw [get_app_other hn0 hn1]
      have e1 : get (app i.σ0 i.σ1 σ) id = get σ id := get_app_other hn0 hn1
      rw [get_app (σ0 := p.σ0) (σ := app i.σ0 i.σ1 σ), e1, get_app]
theorem T_front {envF : List (Nat × V)} {σF : Store} {i : Rec} {post : List Rec} : ∀ (pre : List Rec) {env : List (Nat × V)} {σ : Store}, T envF σF (pre ++ i :: post) env σ → (∀ p ∈ pre, Indep p i) → T envF σF (i :: (pre ++ post)) env σ
  | [], _, _, h, _ => h
  | p :: pre, env, σ, h, hi => by
    obtain ⟨h1, h2, h3⟩ := h
    exact T_swap ⟨h1, h2, T_front pre h3 fun q hq => hi q (by simp [hq])⟩ (hi p (by simp))
section
variable {P : Program} {N base : Nat}
theorem getD_set_self {l : Array Bool} {k : Nat} : (l.setIfInBounds k true).getD k true = true := by
  rw [Array.getD_eq_getD_getElem?]
  by_cases h : k < l.size
  · rw [Array.getElem?_setIfInBounds_self_of_lt h]; rfl
  · rw [Array.getElem?_eq_none (by simp; omega)]; rfl
theorem getD_set_other {l : Array Bool} {k j : Nat} (h : k ≠ j) : (l.setIfInBounds k true).getD j true = l.getD j true := by
  rw [Array.getD_eq_getD_getElem?, Array.getElem?_setIfInBounds_ne h, ← Array.getD_eq_getD_getElem?]
theorem getD_true_of_false {l : Array Bool} {j : Nat} (h : l.getD j false = true) : l.getD j true = true := by
  rw [Array.getD_eq_getD_getElem?] at h ⊢
  cases hj : l[j]? with
  | none => rfl
  | some b => rw [hj] at h; exact h
theorem sched {ro : Option Nat} {n B0 nxe : Nat} {own : List Nat} {opsA : Array Oper} {A : Nat → Nat → Bool} {envF : List (Nat × V)} {σF : Store} {Γ0 : Cx} {w0 : World} {σ0 : Store}
    (hback : ∀ k o, opsA[k]? = some o → ∀ e ∈ o.after, Region.binds .any e = true → e.on < k)
    (hA : ∀ j k, A j k = true → ∃ o, opsA[k]? = some o ∧ ∃ e ∈ o.after, Region.binds .any e = true ∧ (e.on = j ∨ A j e.on = true)) :
    ∀ (fuel : Nat) (listed : Array Bool) (rem : List (Nat × Rec)) (env : List (Nat × V)) (σ : Store) (Γ : Cx) (a : Act) (w : World), listed.size = opsA.size →
      (∀ j, (∃ r, (j, r) ∈ rem) ↔ listed.getD j true = false) → rem.Pairwise (fun p q => p.1 < q.1) →
      (∀ j r, (j, r) ∈ rem → ∃ o, opsA[j]? = some o ∧ lowIns P N own opsA o = some r.ins) →
      (∀ j r, (j, r) ∈ rem → VStep P N base r.ins r.lo r.hi r.env r.σ0 r.v r.σ1 ∧ base ≤ r.lo ∧ r.hi ≤ nxe) →
      rem.Pairwise (fun p q => A p.1 q.1 = true ∨ Indep p.2 q.2) → rem.Pairwise (fun p q => p.2.hi ≤ q.2.lo) →
      (∀ j r, (j, r) ∈ rem → ∀ id, r.lo ≤ id → id < r.hi → Γ.ρ id = none) →
      (∀ j k, A j k = true → listed.getD k true = true → k < opsA.size → listed.getD j true = true) →
      T envF σF (rem.map Prod.snd) env σ → Conc N B0 base Γ w ⟨env, σ, nxe⟩ a → Ext base Γ0 w0 σ0 Γ w σ → rem.length ≤ fuel →
      wpAnyIn (FW ro) n P .any opsA (Post N B0 base Γ0 w0 σ0 fun e st' => e = .normal ∧ st' = ⟨envF, σF, nxe⟩) fuel listed a w := by
  intro fuel
  induction fuel with
  | zero =>
    intro listed rem env σ Γ a w hsz hrem hidx hops hval hind hnm hfr hcl hT hc hext hfuel
    have hnil : rem = [] := List.length_eq_zero_iff.1 (by omega)
    subst hnil
    refine ⟨?_, Γ, _, hc.same hT.1 hT.2, hext.same_store hT.2, rfl, rfl⟩
    refine List.eq_nil_iff_forall_not_mem.2 fun j hj => ?_
    obtain ⟨r, hr⟩ := (hrem j).2 (mem_ready.1 hj).1
    cases hr
  | succ fuel ih =>
    intro listed rem env σ Γ a w hsz hrem hidx hops hval hind hnm hfr hcl hT hc hext hfuel
    refine ⟨fun hnone => ?_, fun k hk => ?_⟩
    · cases rem with
      | nil => exact ⟨Γ, _, hc.same hT.1 hT.2, hext.same_store hT.2, rfl, rfl⟩
      | cons p rem =>
        obtain ⟨j, r⟩ := p
        exfalso
        obtain ⟨o, ho, hlo⟩ := hops j r (by simp)
        have hjl : listed.getD j true = false := (hrem j).1 ⟨r, by simp⟩
        have : j ∈ Region.ready .any opsA listed := mem_ready.2 ⟨hjl, o, ho, fun e he hb => ?_⟩
        · rw [hnone] at this; cases this
        · have hlt := hback j o ho e he hb
          have hjs : j < opsA.size := (Array.getElem?_eq_some_iff.1 ho).1
          have hes : e.on < listed.size := by omega
          cases hb' : listed.getD e.on true with
          | true =>
            rw [Array.getD_eq_getD_getElem?, Array.getElem?_eq_getElem hes] at hb' ⊢
            exact hb'
          | false =>
            obtain ⟨r', hr'⟩ := (hrem e.on).2 hb'
            rcases List.mem_cons.1 hr' with h1 | h1
            · have : e.on = j := congrArg Prod.fst h1
              omega
            · have : j < e.on := (List.pairwise_cons.1 hidx).1 _ h1
              omega
    · obtain ⟨hkl, o, ho, hall⟩ := mem_ready.1 hk
      obtain ⟨r, hr⟩ := (hrem k).2 hkl
      obtain ⟨pre, post, rfl⟩ := List.append_of_mem hr
      obtain ⟨o', ho', hlo⟩ := hops k r hr
      rw [ho] at ho'; cases ho'
      obtain ⟨hvs, hblo, hhie⟩ := hval k r hr
      have hks : k < opsA.size := (Array.getElem?_eq_some_iff.1 ho).1
      have hanc : ∀ j, A j k = true → listed.getD j true = true := fun j hj => by
        obtain ⟨o2, ho2, e, he, hb, h1⟩ := hA j k hj
        rw [ho] at ho2; cases ho2
        have hel := getD_true_of_false (hall e he hb)
        rcases h1 with h1 | h1
        · rw [← h1]; exact hel
        · exact hcl j e.on h1 hel (by have := hback k o ho e he hb; omega)
      have hpre : ∀ p ∈ pre, Indep p.2 r := fun p hp => by
        rcases (List.pairwise_append.1 hind).2.2 p hp (k, r) (by simp) with h1 | h1
        · have h2 := hanc _ h1
          have h3 := (hrem p.1).1 ⟨p.2, by simp [hp]⟩
          rw [h2] at h3; cases h3
        · exact h1
      have hT' : T envF σF (r :: ((pre ++ post).map Prod.snd)) env σ := by
        rw [List.map_append] at hT ⊢
        exact T_front _ hT fun p hp => by
          obtain ⟨q, hq, rfl⟩ := List.mem_map.1 hp
          exact hpre q hq
      obtain ⟨t1, t2, t3⟩ := hT'
      have hsub : (pre ++ post).Sublist (pre ++ (k, r) :: post) := List.Sublist.append (List.Sublist.refl _) (List.sublist_cons_self _ _)
      have hne : ∀ j r', (j, r') ∈ pre ++ post → j ≠ k := fun j r' hj heq => by
        subst heq
        rcases List.mem_append.1 hj with h1 | h1
        · have := (List.pairwise_append.1 hidx).2.2 _ h1 (j, r) (by simp)
          exact Nat.lt_irrefl _ this
        · have := (List.pairwise_cons.1 (List.pairwise_append.1 hidx).2.1).1 _ h1
          exact Nat.lt_irrefl _ this
      show wpOpIn (FW ro) n P opsA _ k _ a w
      unfold wpOpIn
      rw [ho]
      refine hvs ro n B0 own opsA o hlo Γ w a env σ nxe hc t1 t2 (fun id h1 h2 => hfr k r hr id h1 h2) hhie hblo _ _ (fun Γ' w' a' hc' hext' hρ => ?_)
      refine ih (listed.setIfInBounds k true) (pre ++ post) _ _ Γ' a' w' (by simpa using hsz) (fun j => ?_) (hidx.sublist hsub) (fun j r' hj => hops j r' (hsub.subset hj)) (fun j r' hj => hval j r' (hsub.subset hj)) (hind.sublist hsub) (hnm.sublist hsub)
        (fun j r' hj id h1 h2 => ?_) (fun j k2 hjk hk2 hk2s => ?_) t3 hc' (hext.trans hext') (by simp only [List.length_append, List.length_cons] at hfuel ⊢; omega)
      · by_cases hjk : j = k
        · subst hjk
          rw [getD_set_self]
          constructor
          · rintro ⟨r', hr'⟩; exact absurd rfl (hne j r' hr')
          · intro h; cases h
        · rw [getD_set_other (Ne.symm hjk), ← hrem j]
          constructor
          · rintro ⟨r', hr'⟩; exact ⟨r', hsub.subset hr'⟩
          · rintro ⟨r', hr'⟩
            refine ⟨r', ?_⟩
            simp only [List.mem_append, List.mem_cons, Prod.mk.injEq, hjk, false_and, false_or] at hr' ⊢
            exact hr'
      · rw [hρ id]
        · exact hfr j r' (hsub.subset hj) id h1 h2
        · rintro ⟨h3, h4⟩
          rcases List.mem_append.1 hj with h5 | h5
          · have := (List.pairwise_append.1 hnm).2.2 _ h5 (k, r) (by simp)
            simp only at this
            omega
          · have := (List.pairwise_cons.1 (List.pairwise_append.1 hnm).2.1).1 _ h5
            simp only at this
            omega
      · by_cases hj : j = k
        · subst hj; exact getD_set_self
        · rw [getD_set_other (Ne.symm hj)]
          by_cases hk2' : k2 = k
          · subst hk2'; exact hanc j hjk
          · rw [getD_set_other (Ne.symm hk2')] at hk2
            exact hcl j k2 hjk hk2 hk2s
end
theorem testBit_foldl {M : List Nat} {j : Nat} : ∀ (l : List Edge) (m : Nat), (l.foldl (fun m e => m ||| (1 <<< e.on) ||| M.getD e.on 0) m).testBit j = true → m.testBit j = true ∨ ∃ e ∈ l, e.on = j ∨ (M.getD e.on 0).testBit j = true
  | [], m, h => .inl h
  | e :: l, m, h => by
    simp only [List.foldl_cons] at h
    rcases testBit_foldl l _ h with h1 | ⟨e', h1, h2⟩
    · simp only [Nat.testBit_or, Bool.or_eq_true] at h1
      rcases h1 with (h1 | h1) | h1
      · exact .inl h1
      · refine .inr ⟨e, by simp, .inl ?_⟩
        rw [Nat.one_shiftLeft, Nat.testBit_two_pow] at h1
        simpa using h1
      · exact .inr ⟨e, by simp, .inr h1⟩
    · exact .inr ⟨e', by simp [h1], h2⟩
theorem mkMasks_spec : ∀ (os : List Oper) (M : List Nat), ∃ R, mkMasks os M = M ++ R ∧ R.length = os.length ∧ ∀ i o, os[i]? = some o → R[i]? = some (mkMask (M ++ R.take i) o)
  | [], M => ⟨[], by simp [mkMasks], rfl, fun i o h => by simp at h⟩
  | o :: os, M => by
    obtain ⟨R, h1, h2, h3⟩ := mkMasks_spec os (M ++ [mkMask M o])
    refine ⟨mkMask M o :: R, by simp [mkMasks, h1], by simp [h2], fun i o' ho' => ?_⟩
    cases i with
    | zero => simp at ho'; subst ho'; simp
    | succ i =>
      simp only [List.getElem?_cons_succ] at ho' ⊢
      rw [h3 i o' ho']
      simp
theorem backOk_spec : ∀ (os : List Oper) (k : Nat), backOk os k = true → ∀ i o, os[i]? = some o → ∀ e ∈ o.after, Region.binds .any e = true → e.on < k + i
  | [], _, _, i, o, h => by simp at h
  | o :: os, k, hb, i, o', h => by
    simp only [backOk, Bool.and_eq_true, List.all_eq_true, Bool.or_eq_true, Bool.not_eq_true', decide_eq_true_eq] at hb
    cases i with
    | zero =>
      simp at h; subst h
      intro e he hbd
      rcases hb.1 e (by simpa using he) with h1 | h1
      · rw [hbd] at h1; cases h1
      · exact h1
    | succ i =>
      intro e he hbd
      have := backOk_spec os (k + 1) hb.2 i o' (by simpa using h) e he hbd
      omega
theorem ahead_spec {opsA : Array Oper} (hb : backOk opsA.toList 0 = true) (j k : Nat) (h : ahead (mkMasks opsA.toList []) j k = true) :
    ∃ o, opsA[k]? = some o ∧ ∃ e ∈ o.after, Region.binds .any e = true ∧ (e.on = j ∨ ahead (mkMasks opsA.toList []) j e.on = true) := by
  obtain ⟨R, h1, h2, h3⟩ := mkMasks_spec opsA.toList []
  rw [h1] at h ⊢
  simp only [List.nil_append] at h h3 ⊢
  unfold ahead at h ⊢
  cases ho : opsA[k]? with
  | none =>
    have hk : opsA.size ≤ k := by
      rcases Nat.lt_or_ge k opsA.size with h4 | h4
      · rw [Array.getElem?_eq_getElem h4] at ho; cases ho
      · exact h4
    rw [List.getD_eq_getElem?_getD, List.getElem?_eq_none (by rw [h2]; simpa using hk)] at h
    simp at h
  | some o =>
    have ho' : opsA.toList[k]? = some o := by simpa using ho
    rw [List.getD_eq_getElem?_getD, h3 k o ho'] at h
    simp only [Option.getD_some, mkMask] at h
    rcases testBit_foldl _ _ h with h4 | ⟨e, h4, h5⟩
    · simp at h4
    · rw [List.mem_filter] at h4
      refine ⟨o, rfl, e, by simpa using h4.1, h4.2, h5.imp id fun h6 => ?_⟩
      have hlt := backOk_spec _ _ hb k o ho' e (by simpa using h4.1) h4.2
      rw [List.getD_eq_getElem?_getD, List.getElem?_take_of_lt (by omega)] at h6
      rw [List.getD_eq_getElem?_getD]
      exact h6
def memN (x : Nat) : List Nat → Bool
  | [] => false
  | y :: l => match Nat.beq x y with | true => true | false => memN x l
theorem memN_iff {x : Nat} : ∀ {l : List Nat}, memN x l = true ↔ x ∈ l
  | [] => by simp [memN]
  | y :: l => by
    simp only [memN]
    split
    · rename_i h; simp [Nat.eq_of_beq_eq_true h]
    · rename_i h
      have : x ≠ y := fun e => by subst e; rw [Nat.beq_refl] at h; cases h
      rw [memN_iff (l := l)]; simp [this]
def disj : List Nat → List Nat → Bool
  | [], _ => true
  | x :: l, m => match memN x m with | true => false | false => disj l m
theorem disj_spec : ∀ {l m : List Nat}, disj l m = true → ∀ x ∈ l, x ∉ m
  | [], _, _, x, h => by simp at h
  | y :: l, m, h, x, hx => by
    simp only [disj] at h
    split at h
    · cases h
    · rename_i hn
      rcases List.mem_cons.1 hx with rfl | hx
      · intro hm; rw [memN_iff.2 hm] at hn; cases hn
      · exact disj_spec h x hx
def fpAfter (M : List Nat) (j : Nat) (p : Bool × List Nat) : Nat → List (Bool × List Nat) → Bool
  | _, [] => true
  | k, i :: is => match p.2 with
    | [] => true
    | _ => match p.1, i.1 with
      | true, true => fpAfter M j p (k + 1) is
      | _, _ => match disj p.2 i.2 with
        | true => fpAfter M j p (k + 1) is
        | false => match ahead M j k with
          | true => fpAfter M j p (k + 1) is
          | false => false
def fpAll (M : List Nat) : Nat → List (Bool × List Nat) → Bool
  | _, [] => true
  | j, p :: ps => match fpAfter M j p (j + 1) ps with
    | true => fpAll M (j + 1) ps
    | false => false
theorem ssaPair_spec {p i : LIns} (h : ssaPair p i = true) : (∀ d, p.dst = some d → d ∉ i.reads ∧ i.dst ≠ some d) ∧ ∀ d, i.dst = some d → d ∉ p.reads := by
  simp only [ssaPair, Bool.and_eq_true] at h
  refine ⟨fun d hd => ?_, fun d hd => ?_⟩
  · rw [hd] at h
    simp only [Bool.and_eq_true, Bool.not_eq_true', bne_iff_ne, ne_eq] at h
    exact ⟨by simpa using h.1.1, h.1.2⟩
  · rw [hd] at h
    simpa using h.2
theorem ssaAfter_spec {M : List Nat} {j : Nat} {p : LIns} : ∀ (l : List LIns) (k : Nat), ssaAfter M j p k l = true → ∀ i q, l[i]? = some q → ahead M j (k + i) = true ∨ ssaPair p q = true
  | [], _, _, i, q, h => by simp at h
  | x :: l, k, hs, i, q, h => by
    simp only [ssaAfter, Bool.and_eq_true, Bool.or_eq_true] at hs
    cases i with
    | zero => simp at h; subst h; exact hs.1
    | succ i =>
      have := ssaAfter_spec l (k + 1) hs.2 i q (by simpa using h)
      rwa [Nat.add_right_comm] at this
theorem fpAfter_spec {M : List Nat} {j : Nat} {p : Bool × List Nat} : ∀ (l : List (Bool × List Nat)) (k : Nat), fpAfter M j p k l = true → ∀ i q, l[i]? = some q → ahead M j (k + i) = true ∨ (p.1 = true ∧ q.1 = true) ∨ ∀ x ∈ p.2, x ∉ q.2
  | [], _, _, i, q, h => by simp at h
  | x :: l, k, hs, i, q, h => by
    unfold fpAfter at hs
    split at hs
    · rename_i hp; exact .inr (.inr (fun x hx => by rw [hp] at hx; simp at hx))
    · have key : fpAfter M j p (k + 1) l = true ∧ (ahead M j k = true ∨ (p.1 = true ∧ x.1 = true) ∨ ∀ y ∈ p.2, y ∉ x.2) := by
        split at hs
        · rename_i h1 h2; exact ⟨hs, .inr (.inl ⟨h1, h2⟩)⟩
        · split at hs
          · rename_i hd; exact ⟨hs, .inr (.inr (disj_spec hd))⟩
          · split at hs
            · rename_i ha; exact ⟨hs, .inl ha⟩
            · cases hs
      cases i with
      | zero => simp at h; subst h; exact key.2
      | succ i =>
        have := fpAfter_spec l (k + 1) key.1 i q (by simpa using h)
        rwa [Nat.add_right_comm] at this
theorem pairs_spec {M : List Nat} : ∀ (rs : List Rec) (j : Nat), (∀ r ∈ rs, r.rd = true → r.σ1 = r.σ0) → ssaAll M j (rs.map Rec.ins) = true → fpAll M j (rs.map Rec.fp) = true → (rs.zipIdx j).Pairwise fun p q => ahead M p.2 q.2 = true ∨ Indep p.1 q.1
  | [], _, _, _, _ => by simp
  | r :: rs, j, hrd, hs, hf => by
    simp only [List.map_cons, ssaAll, Bool.and_eq_true, fpAll] at hs hf
    rw [List.zipIdx_cons, List.pairwise_cons]
    have hf1 : fpAfter M j r.fp (j + 1) (rs.map Rec.fp) = true := by
      split at hf
      · assumption
      · cases hf
    have hf2 : fpAll M (j + 1) (rs.map Rec.fp) = true := by
      split at hf
      · exact hf
      · cases hf
    refine ⟨fun q hq => ?_, pairs_spec rs (j + 1) (fun q hq => hrd q (by simp [hq])) hs.2 hf2⟩
    obtain ⟨q, k⟩ := q
    obtain ⟨h1, h2, h3⟩ := List.mem_zipIdx hq
    have hq' : rs[k - (j + 1)]? = some q := by rw [h3]; exact List.getElem?_eq_getElem _
    have e1 := ssaAfter_spec (rs.map Rec.ins) (j + 1) hs.1 (k - (j + 1)) q.ins (by simp [hq'])
    have e2 := fpAfter_spec (rs.map Rec.fp) (j + 1) hf1 (k - (j + 1)) q.fp (by simp [hq'])
    rw [show j + 1 + (k - (j + 1)) = k by omega] at e1 e2
    rcases e1 with e1 | e1
    · exact .inl e1
    · rcases e2 with e2 | e2 | e2
      · exact .inl e2
      · exact .inr ⟨(ssaPair_spec e1).1, (ssaPair_spec e1).2, .inl ⟨hrd r (by simp) e2.1, hrd q (by simp [List.mem_of_getElem? hq']) e2.2⟩⟩
      · exact .inr ⟨(ssaPair_spec e1).1, (ssaPair_spec e1).2, .inr e2⟩
inductive Tr (P : Program) (N base : Nat) : List LIns → List (Nat × V) → Store → Nat → List Rec → List (Nat × V) → Store → Nat → Prop
  | nil (env : List (Nat × V)) (σ : Store) (nx : Nat) : Tr P N base [] env σ nx [] env σ nx
  | step {i : LIns} {rest : List LIns} {env env' : List (Nat × V)} {σ σ0 σ1 σ' : Store} {nx lo hi nx' : Nat} {v : V} {rs : List Rec} (hv : VStep P N base i lo hi env σ0 v σ1) (hs : Sub σ0 σ) (hlo : nx ≤ lo) (hhi : lo ≤ hi) (rd : Bool) (hrd : rd = true → σ1 = σ0)
      (h : Tr P N base rest (putE env i.dst v) (app σ0 σ1 σ) hi rs env' σ' nx') : Tr P N base (i :: rest) env σ nx (⟨i, lo, hi, env, σ0, v, σ1, rd⟩ :: rs) env' σ' nx'
  | know {ops : List LIns} {env env' : List (Nat × V)} {σ σ' : Store} {nx nx' : Nat} {rs : List Rec} (t : Nat) (b : Bool) (h : lk env t = vbl b) (h' : Tr P N base ops ((t, if b then .c .tru else .c .fls) :: env) σ nx rs env' σ' nx') : Tr P N base ops env σ nx rs env' σ' nx'
section
variable {P : Program} {N base : Nat}
theorem ri_bool (b : Bool) : RI (vbl b) (if b then .c .tru else .c .fls) := fun Γ w u h => by
  rw [h.bool]
  cases b <;> exact .c _ _ rfl
theorem Tr.ins {ops : List LIns} {env env' : List (Nat × V)} {σ σ' : Store} {nx nx' : Nat} {rs : List Rec} (h : Tr P N base ops env σ nx rs env' σ' nx') : rs.map Rec.ins = ops := by
  induction h with
  | nil => rfl
  | step _ _ _ _ _ _ _ ih => simp [ih]
  | know _ _ _ _ ih => exact ih
theorem Tr.rd {ops : List LIns} {env env' : List (Nat × V)} {σ σ' : Store} {nx nx' : Nat} {rs : List Rec} (h : Tr P N base ops env σ nx rs env' σ' nx') : ∀ r ∈ rs, r.rd = true → r.σ1 = r.σ0 := by
  induction h with
  | nil => intro r hr; cases hr
  | step hv hs hlo hhi rd hrd _ ih =>
    intro r hr
    rcases List.mem_cons.1 hr with rfl | hr
    · exact hrd
    · exact ih r hr
  | know _ _ _ _ ih => exact ih
theorem Tr.le {ops : List LIns} {env env' : List (Nat × V)} {σ σ' : Store} {nx nx' : Nat} {rs : List Rec} (h : Tr P N base ops env σ nx rs env' σ' nx') : nx ≤ nx' ∧ ∀ r ∈ rs, nx ≤ r.lo ∧ r.hi ≤ nx' := by
  induction h with
  | nil => exact ⟨Nat.le_refl _, fun r hr => by cases hr⟩
  | step hv hs hlo hhi _ _ h ih =>
    refine ⟨by have := ih.1; omega, fun r hr => ?_⟩
    rcases List.mem_cons.1 hr with rfl | hr
    · exact ⟨hlo, ih.1⟩
    · have := ih.2 r hr
      exact ⟨by omega, this.2⟩
  | know _ _ _ _ ih => exact ih
theorem Tr.names {ops : List LIns} {env env' : List (Nat × V)} {σ σ' : Store} {nx nx' : Nat} {rs : List Rec} (h : Tr P N base ops env σ nx rs env' σ' nx') : rs.Pairwise fun p q => p.hi ≤ q.lo := by
  induction h with
  | nil => exact List.Pairwise.nil
  | step hv hs hlo hhi _ _ h ih => exact List.pairwise_cons.2 ⟨fun r hr => (h.le.2 r hr).1, ih⟩
  | know _ _ _ _ ih => exact ih
theorem Tr.valid {ops : List LIns} {env env' : List (Nat × V)} {σ σ' : Store} {nx nx' : Nat} {rs : List Rec} (h : Tr P N base ops env σ nx rs env' σ' nx') : ∀ r ∈ rs, VStep P N base r.ins r.lo r.hi r.env r.σ0 r.v r.σ1 := by
  induction h with
  | nil => exact fun r hr => by cases hr
  | step hv hs hlo hhi _ _ h ih =>
    intro r hr
    rcases List.mem_cons.1 hr with rfl | hr
    · exact hv
    · exact ih r hr
  | know _ _ _ _ ih => exact ih
theorem Tr.T {ops : List LIns} {env env' : List (Nat × V)} {σ σ' : Store} {nx nx' : Nat} {rs : List Rec} (h : Tr P N base ops env σ nx rs env' σ' nx') : ∀ envc, (∀ t, RI (lk envc t) (lk env t)) → Pw.T env' σ' rs envc σ := by
  induction h with
  | nil => exact fun envc he => ⟨he, fun _ => rfl⟩
  | step hv hs hlo hhi _ _ h ih =>
    intro envc he
    refine ⟨fun t _ => he t, hs, ih _ fun t => ?_⟩
    rw [lk_putE, lk_putE]
    split
    · exact RI.refl _
    · exact he t
  | know t b h h' ih =>
    intro envc he
    refine ih envc fun t' => ?_
    rw [lk_cons]
    split
    · rename_i ht
      subst ht
      intro Γ w u hr
      have := he t Γ w u hr
      rw [h] at this
      exact ri_bool b Γ w u this
    · exact he t'
theorem low_regionD {own : List Nat} {code : Code} {ops : List LIns} {M ks : List Nat} (h : lowCode P N own code = some (.regionD ops M ks)) :
    ∃ id opsA, code = .region id opsA true ∧ lowList P N own opsA opsA.toList = some ops ∧ M = mkMasks opsA.toList [] ∧ backOk opsA.toList 0 = true ∧ ssaAll M 0 ops = true := by
  cases code with
  | region id opsA draw =>
    simp only [lowCode, Option.bind_eq_bind, Option.bind_eq_some_iff] at h
    obtain ⟨l, hl, h⟩ := h
    cases draw with
    | true =>
      simp only [if_true] at h
      split at h
      · rename_i hc
        cases h
        simp only [Bool.and_eq_true] at hc
        exact ⟨id, opsA, rfl, hl, rfl, hc.1, hc.2⟩
      · cases h
    | false =>
      simp only [Bool.false_eq_true, if_false, Option.some.injEq] at h
      cases h
  | _ => simp [lowCode, Option.bind_eq_some_iff] at h
theorem lowList_get {own : List Nat} {opsA : Array Oper} : ∀ (os : List Oper) (l : List LIns), lowList P N own opsA os = some l → l.length = os.length ∧ ∀ (j : Nat) (i : LIns), l[j]? = some i → ∃ o, os[j]? = some o ∧ lowIns P N own opsA o = some i
  | [], l, h => by simp [lowList] at h; subst h; exact ⟨rfl, fun j i h => by simp at h⟩
  | o :: os, l, h => by
    simp only [lowList, Option.bind_eq_bind, Option.bind_eq_some_iff, Option.some.injEq] at h
    obtain ⟨i, hi, r, hr, rfl⟩ := h
    obtain ⟨h1, h2⟩ := lowList_get os r hr
    refine ⟨by simp [h1], fun j i' hj => ?_⟩
    cases j with
    | zero => simp at hj; subst hj; exact ⟨o, by simp, hi⟩
    | succ j => simpa using h2 j i' (by simpa using hj)
theorem RepV.heap {Γ : Cx} {w w' : World} {v : V} {u : Value} (h : RepV Γ w v u) (hh : w'.heap = w.heap) : RepV Γ w' v u := h.mono (CxLe.refl _) (fun k _ => by rw [hh])
theorem Conc.heap {B0 : Nat} {Γ : Cx} {w w' : World} {a : Act} {st : St} (h : Conc N B0 base Γ w st a) (hh : w'.heap = w.heap) : Conc N B0 base Γ w' st a := by
  refine ⟨h.size, fun t => (h.env t).heap hh, h.ok.keep (CxLe.refl _) (fun k hk => by rw [hh]; exact h.ok.im k hk) (fun k _ => by rw [hh]) (fun k _ => by rw [hh]) (fun k hl hI => h.ok.not_live hI hl), h.free, h.le, ?_⟩
  obtain ⟨Ds, h1, h2, h3⟩ := h.dfs
  exact ⟨Ds, h1, ⟨h2.1, by rw [hh]; exact h2.2⟩, fun D hD => by rw [hh]; exact h3 D hD⟩
theorem Ext.drew {Γ0 Γ : Cx} {w0 w : World} {σ0 σ : Store} (h : Ext base Γ0 w0 σ0 Γ w σ) (n : Nat) : Ext base Γ0 w0 σ0 Γ { w with drawn := n } σ :=
  ⟨h.os, h.tape, h.output, h.size, h.im, h.new, h.ρ, h.κ, h.keep, h.live⟩
theorem Sat.regionD {ops : List LIns} {M ks : List Nat} {st : St} {Q : Exit → St → Prop} {rs : List Rec} {env' : List (Nat × V)} {σ' : Store} {nx' : Nat} (hm : P.follows .mixedOrders = true)
    (h : Tr P N base ops st.env st.σ st.nx rs env' σ' nx') (hf : fpAll M 0 (rs.map Rec.fp) = true) (hQ : Q .normal ⟨env', σ', nx'⟩) : Sat P N base (.regionD ops M ks) st Q := by
  intro ro n B0 own code hro hl Γ0 Γ w0 w σ0 a hc hext
  obtain ⟨id, opsA, rfl, hlow, hM, hb, hssa⟩ := low_regionD hl
  refine wpIn_region_any hm ?_
  obtain ⟨hlen, hget⟩ := lowList_get opsA.toList ops hlow
  have hins := h.ins
  have hrl : rs.length = opsA.size := by
    have := congrArg List.length hins
    simp only [List.length_map] at this
    rw [this, hlen]; simp
  have hmem : ∀ j r, (j, r) ∈ (rs.zipIdx.map fun p => (p.2, p.1)) ↔ rs[j]? = some r := fun j r => by
    simp only [List.mem_map, Prod.mk.injEq, Prod.exists]
    constructor
    · rintro ⟨r', j', h1, rfl, rfl⟩
      exact List.mem_zipIdx_iff_getElem?.1 h1
    · intro h1
      exact ⟨r, j, List.mem_zipIdx_iff_getElem?.2 h1, rfl, rfl⟩
  have hmemr : ∀ j r, (j, r) ∈ (rs.zipIdx.map fun p => (p.2, p.1)) → r ∈ rs := fun j r hj => List.mem_of_getElem? ((hmem j r).1 hj)
  have hconc : Conc N B0 base Γ { w with drawn := w.drawn + 1 } ⟨st.env, st.σ, nx'⟩ a := by
    have hc' := hc.heap (w' := { w with drawn := w.drawn + 1 }) rfl
    exact ⟨hc'.size, hc'.env, hc'.ok, fun id hid => hc'.free id (Nat.le_trans h.le.1 hid), Nat.le_trans hc'.le h.le.1, hc'.dfs⟩
  have hpair := pairs_spec (M := M) rs 0 h.rd (by rw [hins]; exact hssa) hf
  have hmono : wpAnyIn (FW ro) n P .any opsA (Post N B0 base Γ0 w0 σ0 fun e st' => e = .normal ∧ st' = ⟨env', σ', nx'⟩) opsA.size (Array.replicate opsA.size false) a { w with drawn := w.drawn + 1 } :=
    sched (A := ahead M) (own := own) (envF := env') (σF := σ') (nxe := nx') (base := base) (N := N)
      (fun k o ho e he hbd => by have := backOk_spec _ _ hb k o (by simpa using ho) e he hbd; omega)
      (fun j k hj => by rw [hM] at hj ⊢; exact ahead_spec hb j k hj)
      opsA.size _ (rs.zipIdx.map fun p => (p.2, p.1)) st.env st.σ Γ a _ (by simp)
      (fun j => by
        constructor
        · rintro ⟨r, hr⟩
          have := (List.getElem?_eq_some_iff.1 ((hmem j r).1 hr)).1
          rw [Array.getD_eq_getD_getElem?, Array.getElem?_replicate, if_pos (by omega)]; rfl
        · intro hj
          rw [Array.getD_eq_getD_getElem?, Array.getElem?_replicate] at hj
          split at hj
          · rename_i hlt
            have hlt' : j < rs.length := by omega
            exact ⟨rs[j], (hmem j _).2 (List.getElem?_eq_getElem hlt')⟩
          · cases hj)
      (by
        rw [List.pairwise_map]
        have := List.pairwise_iff_getElem (R := fun p q : Rec × Nat => p.2 < q.2) (l := rs.zipIdx)
        rw [this]
        intro i j hi hj hij
        simp only [List.getElem_zipIdx]
        omega)
      (fun j r hj => by
        have h1 := (hmem j r).1 hj
        have h2 : ops[j]? = some r.ins := by rw [← hins]; simp [h1]
        obtain ⟨o, ho, hlo⟩ := hget j r.ins h2
        exact ⟨o, by simpa using ho, hlo⟩)
      (fun j r hj => by
        have hr := hmemr j r hj
        exact ⟨h.valid r hr, Nat.le_trans hc.le (h.le.2 r hr).1, (h.le.2 r hr).2⟩)
      (by rw [List.pairwise_map]; exact hpair)
      (by
        rw [List.pairwise_map]
        have h1 := h.names
        have h2 := List.pairwise_iff_getElem (R := fun p q : Rec × Nat => p.1.hi ≤ q.1.lo) (l := rs.zipIdx)
        rw [h2]
        intro i j hi hj hij
        simp only [List.getElem_zipIdx]
        exact (List.pairwise_iff_getElem.1 h1) i j _ _ hij)
      (fun j r hj id h1 h2 => hc.free id (Nat.le_trans (h.le.2 r (hmemr j r hj)).1 h1))
      (fun j k _ hk hks => by
        rw [Array.getD_eq_getD_getElem?, Array.getElem?_replicate, if_pos hks] at hk
        cases hk)
      (by
        rw [List.map_map]
        have : (rs.zipIdx.map (Prod.snd ∘ fun p : Rec × Nat => (p.2, p.1))) = rs := by
          have h3 : (Prod.snd ∘ fun p : Rec × Nat => (p.2, p.1)) = Prod.fst := rfl
          rw [h3]; simp
        rw [this]
        exact h.T _ fun t => RI.refl _)
      hconc (hext.drew _) (by simp [hrl])
  -- the posts alone differ
  have key : ∀ (fuel : Nat) (listed : Array Bool) (a : Act) (w : World), wpAnyIn (FW ro) n P .any opsA (Post N B0 base Γ0 w0 σ0 fun e st' => e = .normal ∧ st' = ⟨env', σ', nx'⟩) fuel listed a w →
      wpAnyIn (FW ro) n P .any opsA (Post N B0 base Γ0 w0 σ0 Q) fuel listed a w := by
    have hpost : ∀ e a w, Post N B0 base Γ0 w0 σ0 (fun e st' => e = .normal ∧ st' = ⟨env', σ', nx'⟩) e a w → Post N B0 base Γ0 w0 σ0 Q e a w := fun e a w ⟨Γ', st', h1, h2, h3, h4⟩ => ⟨Γ', st', h1, h2, by subst h3; subst h4; exact hQ⟩
    have hop : ∀ (i : Nat) (K K' : Act → World → Prop) (a : Act) (w : World), (∀ a w, K a w → K' a w) → wpOpIn (FW ro) n P opsA (Post N B0 base Γ0 w0 σ0 fun e st' => e = .normal ∧ st' = ⟨env', σ', nx'⟩) i K a w → wpOpIn (FW ro) n P opsA (Post N B0 base Γ0 w0 σ0 Q) i K' a w := fun i K K' a w hk hh => by
      unfold wpOpIn at hh ⊢
      split
      · rename_i ho; rw [ho] at hh; exact hk _ _ hh
      · rename_i o ho
        rw [ho] at hh
        simp only at hh
        split
        · rename_i hw
          rw [if_pos hw] at hh
          refine ⟨hh.1, ?_⟩
          have hh := hh.2
          generalize (o.semAt (FW ro).round a.eval).run P w = r at *
          cases r with
          | ok x w' =>
            cases x <;> simp only [Oper.uponIn] at hh ⊢ <;>
              first
                | exact hk _ _ hh
                | exact ⟨hh.1, CallsIn.mono hh.2 (fun e w'' he => by cases e <;> first | exact hk _ _ he | exact hpost _ _ _ he | (obtain ⟨a1, w1, hq⟩ := he; exact ⟨a1, w1, hpost _ _ _ hq⟩))⟩
                | exact ⟨hh.1, RowsIn.mono hh.2 (fun _ _ he => hk _ _ he)⟩
                | exact ⟨hh.1, RoundIn.mono hh.2 (fun e w'' he => by cases e <;> first | exact hk _ _ he | exact hpost _ _ _ he | (obtain ⟨a1, w1, hq⟩ := he; exact ⟨a1, w1, hpost _ _ _ hq⟩))⟩
          | halt x w' => cases x <;> simp only [Oper.uponIn] at hh ⊢ <;> exact hpost _ _ _ hh
        · rename_i hw
          rw [if_neg hw] at hh
          exact ⟨hh.1, hk _ _ hh.2⟩
    intro fuel
    induction fuel with
    | zero => intro listed a w h; exact ⟨h.1, hpost _ _ _ h.2⟩
    | succ fuel ih => intro listed a w h; exact ⟨fun hr => hpost _ _ _ (h.1 hr), fun i hi => hop i _ _ a w (fun a w => ih _ a w) (h.2 i hi)⟩
  exact key _ _ _ _ hmono
end
def Ent1 (P : Program) (f : FuncId) : Prop := ∀ (args : Array Value) (w : World), (callFunc f args).run P w = .ok (.enter f args) w
def RepL (Γ : Cx) (w : World) (args : List V) (us : Array Value) : Prop := us.size = args.length ∧ ∀ (i : Nat) v u, args[i]? = some v → us[i]? = some u → RepV Γ w v u
def CallD (P : Program) (f : FuncId) (args : List V) (σ : Store) (nx : Nat) (v : V) (σ' : Store) (nx' : Nat) : Prop :=
  Ent1 P f ∧ nx ≤ nx' ∧ ∀ (Γ : Cx) (w : World) (us : Array Value), StoreOk Γ w σ → (∀ id, nx ≤ id → id < nx' → Γ.ρ id = none) → RepL Γ w args us →
    Calls P f us w fun e w' => ∃ u Γ', e = .returned u ∧ RepV Γ' w' v u ∧ StoreOk Γ' w' σ' ∧ CxLe Γ Γ' ∧ (∀ id, ¬ (nx ≤ id ∧ id < nx') → Γ'.ρ id = Γ.ρ id ∧ Γ'.κ id = Γ.κ id) ∧ Ext 0 Γ w σ Γ' w' σ'
structure PFD (P : Program) (f : FuncId) (args : List V) (v : V) : Prop where
  h : CallD P f args [] 0 v [] 0
theorem PFD.at {P : Program} {f : FuncId} {args : List V} {v : V} (h : PFD P f args v) (nx : Nat) : CallD P f args [] nx v [] nx := by
  refine ⟨h.h.1, Nat.le_refl _, fun Γ w us hst _ hr => ?_⟩
  refine (h.h.2.2 Γ w us hst (fun id _ h2 => absurd h2 (Nat.not_lt_zero _)) hr).mono (fun e w' ⟨u, Γ', h1, h2, h3, h4, h5, h6⟩ => ⟨u, Γ', h1, h2, h3, h4, fun id _ => h5 id (by omega), h6⟩)
inductive RIs : List V → List V → Prop
  | nil : RIs [] []
  | cons {x y : V} {xs ys : List V} (h : RI x y) (t : RIs xs ys) : RIs (x :: xs) (y :: ys)
theorem RIs.length {xs ys : List V} (h : RIs xs ys) : xs.length = ys.length := by
  induction h with
  | nil => rfl
  | cons _ _ ih => simp [ih]
theorem RIs.get {xs ys : List V} (h : RIs xs ys) : ∀ {i : Nat} {y : V}, ys[i]? = some y → ∃ x, xs[i]? = some x ∧ RI x y := by
  induction h with
  | nil => intro i y h; simp at h
  | cons h t ih =>
    intro i y hy
    cases i with
    | zero => simp at hy; subst hy; exact ⟨_, rfl, h⟩
    | succ i => exact ih (by simpa using hy)
theorem RIs.rep {Γ : Cx} {w : World} {xs ys : List V} {us : Array Value} (h : RIs xs ys) (hr : RepL Γ w xs us) : RepL Γ w ys us := by
  refine ⟨by rw [hr.1, h.length], fun i v u hv hu => ?_⟩
  obtain ⟨x, hx, hxy⟩ := h.get hv
  exact hxy Γ w u (hr.2 i x u hx hu)
section
variable {P : Program} {N base : Nat} {i : LIns}
theorem run_call {ρ : Operand → Value} {o : Oper} {c : Call} {fop : Operand} {f : FuncId} {caps : Array Value} {w : World} (he : Ent1 P f) (ho : o.op = .call c) (hc : c.callee = .value fop) (hf : ρ fop = .func (.func f) #[] caps) :
    (execOp ρ o).run P w = .ok (.enter f (c.args.map ρ ++ caps)) w := by
  have h1 : (resolve ρ c o.type).run P w = .ok { target := .fn (.func f) caps, args := c.args.map ρ } w := by
    unfold resolve
    simp only [hc, hf, Deferred.ofValue]
    simp
  unfold execOp
  simp only [ho, Sem.run_bind, h1, Result.andThen_ok, invoke]
  exact he _ _
theorem Calls.fw {ro : Option Nat} {n : Nat} {f : FuncId} {args : Array Value} {w : World} {R : Ending → World → Prop} (h : Calls P f args w R) : CallsIn (FW ro) n P f args w R := by
  have h1 : CallsIn Fence.wide n P f args w R := callsIn_wide.2 h
  cases ro with
  | none => exact h1
  | some l => exact h1
theorem VStep.call {env : List (Nat × V)} {σ0 σ1 : Store} {lo hi : Nat} {v : V} {f : FuncId} {ids : List Nat} {fop : Operand} {xs : List Operand} {args : List V} (hg : guardOf env i.guard = .run) (hop : i.op = .call fop xs)
    (hf : evo env fop = .c (.fn f ids)) (hargs : RIs (xs.map (evo env) ++ ids.map fun k => .c (.bp k 0)) args) (h : CallD P f args σ0 lo v σ1 hi) : VStep P N base i lo hi env σ0 v σ1 := by
  intro ro n B0 own opsA o hi' Γ w a env' σ nxe hc hre hsub hfr hhi hbase K Q hK
  obtain ⟨⟨b, hop'⟩, hdst, hdN, hgd⟩ := lowIns_some hi'
  have hc2 := hc.relab (env := env) (l := i.reads) hre
  have hev : ∀ x ∈ i.op.opnds, evo env x = evo (Pw.relab env env' i.reads) x := fun x hx => (evo_relab (reads_opnd hx)).symm
  have hgr : guardOf (Pw.relab env env' i.reads) i.guard = .run := by
    rw [← hg]
    refine guardOf_congr (fun t b hgt => ?_)
    rw [lk_relab, if_pos (reads_guard hgt)]
  obtain ⟨c, hoc, hcal, hxs⟩ := low_call (hop' ▸ hop : lowOp P b o = .call fop xs)
  have hfr' : RepV Γ w (.c (.fn f ids)) (a.eval fop) := by
    have := hc2.ev fop
    rw [← hev fop (by rw [hop]; simp [LOp.opnds]), hf] at this
    exact this
  obtain ⟨bs, hbl, hbs, hfu⟩ : ∃ bs : List Nat, bs.length = ids.length ∧ (∀ (j i : Nat), ids[j]? = some i → ∃ b, Γ.ρ i = some b ∧ bs[j]? = some b) ∧ a.eval fop = .func (.func f) #[] (bs.map fun b => ptr b 0).toArray := by
    cases hfr' with | c _ _ h => exact h
  have hrun := run_call (P := P) (w := w) h.1 hoc hcal hfu
  have hrep : RepL Γ w args (c.args.map a.eval ++ (bs.map fun b => ptr b 0).toArray) := by
    refine hargs.rep ⟨by simp [hbl, ← hxs], fun j v u hv hu => ?_⟩
    by_cases hj : j < xs.length
    · rw [List.getElem?_append_left (by simpa using hj)] at hv
      have hjs : j < c.args.size := by rw [← hxs] at hj; simpa using hj
      rw [Array.getElem?_append_left (by simpa using hjs)] at hu
      simp only [List.getElem?_map, Option.map_eq_some_iff] at hv
      obtain ⟨x, hx, rfl⟩ := hv
      have hx' : c.args[j]? = some x := by rw [← hxs] at hx; simpa using hx
      simp only [Array.getElem?_map, hx', Option.map_some, Option.some.injEq] at hu
      subst hu
      rw [hev x (by rw [hop]; simp only [LOp.opnds, List.mem_cons]; exact .inr (List.mem_of_getElem? hx))]
      exact hc2.ev x
    · have hjs : c.args.size ≤ j := by have : c.args.size = xs.length := by rw [← hxs]; simp
                                       omega
      rw [List.getElem?_append_right (by simpa using hj)] at hv
      rw [Array.getElem?_append_right (by simpa using hjs)] at hu
      have e1 : c.args.size = xs.length := by rw [← hxs]; simp
      simp only [List.length_map, List.getElem?_map, Option.map_eq_some_iff] at hv
      obtain ⟨k, hk, rfl⟩ := hv
      obtain ⟨b, hb, hb'⟩ := hbs _ k hk
      simp only [Array.size_map, e1, List.getElem?_toArray, List.getElem?_map, hb', Option.map_some, Option.some.injEq] at hu
      subst hu
      exact .c _ _ ⟨b, hb, rfl⟩
  have hw : Region.wanted o (yielded opsA a.tmps) = true := (guardOf_run (i := i) (σ := σ) (nx := nxe) hgr).wanted hc2 hgd
  simp only [wpO, hw, if_true, Oper.wpIn]
  refine ⟨fun _ _ => trivial, ?_⟩
  rw [Oper.semAt_eq _ _ o (fun c' h' => by rw [hoc] at h'; cases h'), hrun, Oper.uponIn_enter]
  refine ⟨fun h => by simp [FW, Fence.wide] at h, Calls.fw ((h.2.2 Γ w _ (hc.ok.sub hsub) (fun id h1 h2 => hfr id h1 h2) hrep).mono ?_)⟩
  rintro e w' ⟨u, Γ', rfl, hv, hst, hle, hρ, hext0⟩
  have hext : Ext base Γ w σ0 Γ' w' σ1 := ⟨hext0.os, hext0.tape, hext0.output, hext0.size, hext0.im, hext0.new, fun id hid => (hρ id (by omega)).1, fun id hid => (hρ id (by omega)).2, hext0.keep, hext0.live⟩
  obtain ⟨hst', hext'⟩ := frame hc.ok hsub hst hle hext
  have hfree : ∀ id, nxe ≤ id → Γ'.ρ id = none := fun id hid => by
    rw [(hρ id (by omega)).1]; exact hc.free id hid
  exact hK Γ' w' (a.put o.dst u) (by rw [hdst]; exact hc.put2 hdN hv hst' hle hext' hfree) hext' (fun id hid => (hρ id hid).1)
theorem VStep.callR {env : List (Nat × V)} {σ0 σ1 : Store} {lo hi : Nat} {v : V} {f : FuncId} {rows : List (List D)} {fop : Operand} {xs : List Operand} {args : List V} (hg : guardOf env i.guard = .run) (hop : i.op = .call fop xs)
    (hf : evo env fop = .c (.fnR f rows)) (hargs : RIs (xs.map (evo env) ++ rows.map fun r => .c (.rp r)) args) (h : CallD P f args σ0 lo v σ1 hi) : VStep P N base i lo hi env σ0 v σ1 := by
  intro ro n B0 own opsA o hi' Γ w a env' σ nxe hc hre hsub hfr hhi hbase K Q hK
  obtain ⟨⟨b, hop'⟩, hdst, hdN, hgd⟩ := lowIns_some hi'
  have hc2 := hc.relab (env := env) (l := i.reads) hre
  have hev : ∀ x ∈ i.op.opnds, evo env x = evo (Pw.relab env env' i.reads) x := fun x hx => (evo_relab (reads_opnd hx)).symm
  have hgr : guardOf (Pw.relab env env' i.reads) i.guard = .run := by
    rw [← hg]
    refine guardOf_congr (fun t b hgt => ?_)
    rw [lk_relab, if_pos (reads_guard hgt)]
  obtain ⟨c, hoc, hcal, hxs⟩ := low_call (hop' ▸ hop : lowOp P b o = .call fop xs)
  have hfr' : RepV Γ w (.c (.fnR f rows)) (a.eval fop) := by
    have := hc2.ev fop
    rw [← hev fop (by rw [hop]; simp [LOp.opnds]), hf] at this
    exact this
  obtain ⟨bs, hbl, hbs, hfu⟩ : ∃ bs : List Value, bs.length = rows.length ∧ (∀ (j : Nat) row x, rows[j]? = some row → bs[j]? = some x → RepP Γ.I w row x) ∧ a.eval fop = .func (.func f) #[] bs.toArray := by
    cases hfr' with | c _ _ h => exact h
  have hrun := run_call (P := P) (w := w) h.1 hoc hcal hfu
  have hrep : RepL Γ w args (c.args.map a.eval ++ bs.toArray) := by
    refine hargs.rep ⟨by simp [hbl, ← hxs], fun j v u hv hu => ?_⟩
    by_cases hj : j < xs.length
    · rw [List.getElem?_append_left (by simpa using hj)] at hv
      have hjs : j < c.args.size := by rw [← hxs] at hj; simpa using hj
      rw [Array.getElem?_append_left (by simpa using hjs)] at hu
      simp only [List.getElem?_map, Option.map_eq_some_iff] at hv
      obtain ⟨x, hx, rfl⟩ := hv
      have hx' : c.args[j]? = some x := by rw [← hxs] at hx; simpa using hx
      simp only [Array.getElem?_map, hx', Option.map_some, Option.some.injEq] at hu
      subst hu
      rw [hev x (by rw [hop]; simp only [LOp.opnds, List.mem_cons]; exact .inr (List.mem_of_getElem? hx))]
      exact hc2.ev x
    · have hjs : c.args.size ≤ j := by have : c.args.size = xs.length := by rw [← hxs]; simp
                                       omega
      rw [List.getElem?_append_right (by simpa using hj)] at hv
      rw [Array.getElem?_append_right (by simpa using hjs)] at hu
      have e1 : c.args.size = xs.length := by rw [← hxs]; simp
      simp only [List.length_map, List.getElem?_map, Option.map_eq_some_iff] at hv
      obtain ⟨k, hk, rfl⟩ := hv
      simp only [Array.size_map, e1, List.getElem?_toArray] at hu
      exact .c _ _ (hbs _ k u hk hu)
  have hw : Region.wanted o (yielded opsA a.tmps) = true := (guardOf_run (i := i) (σ := σ) (nx := nxe) hgr).wanted hc2 hgd
  simp only [wpO, hw, if_true, Oper.wpIn]
  refine ⟨fun _ _ => trivial, ?_⟩
  rw [Oper.semAt_eq _ _ o (fun c' h' => by rw [hoc] at h'; cases h'), hrun, Oper.uponIn_enter]
  refine ⟨fun h => by simp [FW, Fence.wide] at h, Calls.fw ((h.2.2 Γ w _ (hc.ok.sub hsub) (fun id h1 h2 => hfr id h1 h2) hrep).mono ?_)⟩
  rintro e w' ⟨u, Γ', rfl, hv, hst, hle, hρ, hext0⟩
  have hext : Ext base Γ w σ0 Γ' w' σ1 := ⟨hext0.os, hext0.tape, hext0.output, hext0.size, hext0.im, hext0.new, fun id hid => (hρ id (by omega)).1, fun id hid => (hρ id (by omega)).2, hext0.keep, hext0.live⟩
  obtain ⟨hst', hext'⟩ := frame hc.ok hsub hst hle hext
  have hfree : ∀ id, nxe ≤ id → Γ'.ρ id = none := fun id hid => by
    rw [(hρ id (by omega)).1]; exact hc.free id hid
  exact hK Γ' w' (a.put o.dst u) (by rw [hdst]; exact hc.put2 hdN hv hst' hle hext' hfree) hext' (fun id hid => (hρ id hid).1)
inductive RL where
  | tmp (t : Nat)
  | cell (a : Nat) (g : Bool) (n : Nat)
def lowR (P : Program) : ResultVar → Option RL
  | .tmp t => some (.tmp t)
  | .cell a t => match aggT P t, sizeT P t with
    | some g, some n => if g || n == 1 then some (.cell a g n) else none
    | _, _ => none
def lowRs (P : Program) : List ResultVar → Option (List RL)
  | [] => some []
  | r :: rs => match lowR P r, lowRs P rs with
    | some x, some xs => some (x :: xs)
    | _, _ => none
def resOne (env : List (Nat × V)) (σ : Store) : RL → Option V
  | .tmp t => some (lk env t)
  | .cell a g n => match lk env a with
    | .c (.bp id off) => match get σ id with
      | some (.box cs) => match g with
        | true => tkc n (cs.drop off) fun l => some (.agg l)
        | false => match cs.drop off with
          | c :: _ => some (.c c)
          | [] => none
      | _ => none
    | _ => none
def resAll (env : List (Nat × V)) (σ : Store) : List RL → Option (List V)
  | [] => some []
  | r :: rs => match resOne env σ r with
    | some v => match resAll env σ rs with
      | some vs => some (v :: vs)
      | none => none
    | none => none
def retV : List V → V
  | [v] => v
  | vs => .tup vs
def resSem (tmps : Array Value) : ResultVar → Sem Value
  | .tmp t => pure (tmps.getD t undef)
  | .cell a t => do loadVar t (← asAddr (tmps.getD a undef))
theorem resOne_run {Γ : Cx} {w : World} {tmps : Array Value} {env : List (Nat × V)} {σ : Store} {r : ResultVar} {l : RL} {v : V} (hl : lowR P r = some l) (henv : ∀ t, RepV Γ w (lk env t) (tmps.getD t undef)) (hok : StoreOk Γ w σ) (hv : resOne env σ l = some v) :
    ∃ u, (resSem tmps r).run P w = .ok u w ∧ RepV Γ w v u := by
  cases r with
  | tmp t =>
    simp only [lowR, Option.some.injEq] at hl
    subst hl
    simp only [resOne, Option.some.injEq] at hv
    subst hv
    exact ⟨_, by simp [resSem], henv t⟩
  | cell a t =>
    simp only [lowR] at hl
    split at hl
    · rename_i g n hg hn
      split at hl
      · rename_i hg1
        cases hl
        simp only [resOne] at hv
        have hr := henv a
        split at hv
        · rename_i id off hlk
          rw [hlk] at hr
          obtain ⟨b, hb, hu⟩ : ∃ b, Γ.ρ id = some b ∧ tmps.getD a undef = ptr b off := by cases hr with | c _ _ h => exact h
          split at hv
          · rename_i cs hgt
            obtain ⟨b', hb', _, xs, ty, hh, hsz, hcs⟩ := hok.ok id _ hgt
            rw [hb] at hb'; cases hb'
            have hc : ∀ (j : Nat) (c : C), (cs.drop off)[j]? = some c → ∃ u, w.cell? ((⟨b, off, none⟩ : Addr).add j) = some u ∧ RepC Γ w c u := fun j c hj => by
              rw [cell_at hh]; exact hcs (off + j) c (by rw [List.getElem?_drop] at hj; exact hj)
            have hrun : (resSem tmps (.cell a t)).run P w = (loadVar t ⟨b, off, none⟩).run P w := by
              simp [resSem, hu, ptr, asAddr]
            cases g with
            | true =>
              obtain ⟨hl, hk⟩ := tkc_some _ _ _ _ hv
              simp only [Option.some.injEq] at hk
              subst hk
              obtain ⟨xs', hxl, hxg, hxr⟩ := values_of (Γ := Γ) (w := w) (cs := (cs.drop off).take n) (g := fun j => w.cell? ((⟨b, off, none⟩ : Addr).add j)) (fun j c hj => hc j c (by
                rw [List.getElem?_take] at hj; split at hj
                · exact hj
                · cases hj))
              have hxl' : xs'.length = n := by rw [hxl]; simp at hl ⊢; omega
              have := run_loadVar_cells (P := P) (w := w) (t := t) (a := ⟨b, off, none⟩) (xs := xs') hg (by rw [hxl']; exact hn) hxg (by simp)
              refine ⟨.agg xs'.toArray, ?_, .agg _ _ (by simp [hxl]) (fun i c u h1 h2 => hxr i c u h1 (by simpa using h2))⟩
              rw [hrun, this]; rfl
            | false =>
              simp only at hv
              have hn1 : n = 1 := by simpa using hg1
              subst hn1
              split at hv
              · rename_i c rest hd
                simp only [Option.some.injEq] at hv
                subst hv
                rw [hd] at hc
                obtain ⟨u, hu', hr'⟩ := hc 0 c rfl
                have := run_loadVar_cells (P := P) (w := w) (t := t) (a := ⟨b, off, none⟩) (xs := [u]) hg hn (fun j u'' hj => by
                  cases j with
                  | zero => simp at hj; subst hj; exact hu'
                  | succ j => simp at hj) (by simp)
                exact ⟨u, by rw [hrun, this]; rfl, .c _ _ hr'⟩
              · cases hv
          · cases hv
        · cases hv
      · cases hl
    · cases hl
theorem resAll_run {Γ : Cx} {w : World} {tmps : Array Value} {env : List (Nat × V)} {σ : Store} (henv : ∀ t, RepV Γ w (lk env t) (tmps.getD t undef)) (hok : StoreOk Γ w σ) : ∀ (rs : List ResultVar) (ls : List RL) (vs : List V), lowRs P rs = some ls → resAll env σ ls = some vs →
    ∃ us : List Value, (rs.mapM (resSem tmps)).run P w = .ok us w ∧ us.length = vs.length ∧ ∀ (i : Nat) v u, vs[i]? = some v → us[i]? = some u → RepV Γ w v u
  | [], ls, vs, hl, hv => by
    simp only [lowRs, Option.some.injEq] at hl
    subst hl
    simp only [resAll, Option.some.injEq] at hv
    subst hv
    exact ⟨[], by simp, rfl, fun i v u h => by simp at h⟩
  | r :: rs, ls, vs, hl, hv => by
    simp only [lowRs] at hl
    split at hl
    · rename_i x xs h1 h2
      cases hl
      simp only [resAll] at hv
      split at hv
      · rename_i v h3
        split at hv
        · rename_i vs' h4
          cases hv
          obtain ⟨u, hu, hr⟩ := resOne_run h1 henv hok h3
          obtain ⟨us, hus, hlen, hget⟩ := resAll_run henv hok rs xs vs' h2 h4
          refine ⟨u :: us, by simp [List.mapM_cons, hu, hus], by simp [hlen], fun i v' u' hv hu => ?_⟩
          cases i with
          | zero => simp at hv hu; subst hv; subst hu; exact hr
          | succ i => exact hget i v' u' (by simpa using hv) (by simpa using hu)
        · cases hv
      · cases hv
    · cases hl
theorem results_run {Γ : Cx} {w : World} {fn : Func} {tmps : Array Value} {env : List (Nat × V)} {σ : Store} {ls : List RL} {vs : List V} (henv : ∀ t, RepV Γ w (lk env t) (tmps.getD t undef)) (hok : StoreOk Γ w σ) (hl : lowRs P fn.results.toList = some ls) (hv : resAll env σ ls = some vs) :
    ∃ us : List Value, (results fn tmps).run P w = .ok (if h : us.toArray.size = 1 then us.toArray[0] else .tuple us.toArray) w ∧ us.length = vs.length ∧ ∀ (i : Nat) v u, vs[i]? = some v → us[i]? = some u → RepV Γ w v u := by
  obtain ⟨us, hus, h2, h3⟩ := resAll_run henv hok _ _ _ hl hv
  refine ⟨us, ?_, h2, h3⟩
  have this : (fn.results.mapM (resSem tmps)).run P w = .ok us.toArray w := by
    rw [Array.mapM_eq_mapM_toList]
    simp [hus]
  have e : ∀ g : ResultVar → Sem Value, g = resSem tmps → Sem.run P (do
      let vs ← fn.results.mapM g
      pure (if h : vs.size = 1 then vs[0] else .tuple vs)) w = .ok (if h : us.toArray.size = 1 then us.toArray[0] else .tuple us.toArray) w := fun g hg => by
    subst hg
    rw [Sem.run_bind, this]
    simp
  exact e _ (by funext x; cases x <;> rfl)
theorem retV_rep {Γ : Cx} {w : World} {vs : List V} {us : List Value} (h2 : us.length = vs.length) (h3 : ∀ (i : Nat) v u, vs[i]? = some v → us[i]? = some u → RepV Γ w v u) : RepV Γ w (retV vs) (if h : us.toArray.size = 1 then us.toArray[0] else .tuple us.toArray) := by
  match vs, us, h2 with
  | [v], [u], _ => simpa [retV] using h3 0 v u rfl rfl
  | [], [], _ => exact .tup _ _ rfl (fun i v u h => by simp at h)
  | a :: b :: vs, x :: y :: us, h2 =>
    have : ¬ (x :: y :: us).toArray.size = 1 := by simp
    rw [dif_neg this]
    exact .tup _ _ (by simpa using h2) (fun i v u hv hu => h3 i v u hv (by simpa using hu))
end
end Go.Pw
set_option linter.unusedVariables false
namespace Go.Pw
open Go Go.RowKit
section
variable {P : Program} {N base : Nat} {f : FuncId}
theorem putObj_heap_other {w : World} {k j : Nat} {o : Obj} (h : j ≠ k) : (w.putObj k o).heap[j]? = w.heap[j]? := by
  show (w.heap.setIfInBounds k o)[j]? = w.heap[j]?
  rw [Array.getElem?_setIfInBounds_ne (Ne.symm h)]
theorem leave_marks {F : Fence} {n : Nat} {fn : Func} {tmps : Array Value} {R : Ending → World → Prop} : ∀ (Ds : List Nat) (w : World), Ds.Nodup → (∀ D ∈ Ds, w.heap[D]? = some (.deferred (some []))) →
    (∀ w', w'.os = w.os → w'.tape = w.tape → w'.output = w.output → w'.heap.size = w.heap.size → (∀ k, k ∉ Ds → w'.heap[k]? = w.heap[k]?) → ∃ v, (results fn tmps).run P w' = .ok v w' ∧ R (.returned v) w') →
    LeavesInM F n P fn tmps R (Ds.map mkD) .returning w
  | [], w, _, _, h => by
    obtain ⟨v, h1, h2⟩ := h w rfl rfl rfl rfl (fun _ _ => rfl)
    exact ⟨v, h1, h2⟩
  | D :: Ds, w, hnd, hD, h => by
    obtain ⟨h1, h2⟩ := List.nodup_cons.1 hnd
    refine ⟨by simp, .inl ⟨D, w.putObj D (.deferred none), rfl, run_takeDeferred (hD D (by simp)), ?_⟩⟩
    refine leave_marks Ds _ h2 (fun D' hD' => ?_) (fun w' e1 e2 e3 e4 e5 => ?_)
    · rw [putObj_heap_other (fun e => by subst e; exact h1 hD')]; exact hD D' (by simp [hD'])
    · refine h w' e1 e2 e3 (by rw [e4]; simp [World.putObj]) (fun k hk => ?_)
      simp only [List.mem_cons, not_or] at hk
      rw [e5 k hk.2, putObj_heap_other hk.1]
def argEnv : Nat → List V → List (Nat × V)
  | _, [] => []
  | k, v :: vs => (k, v) :: argEnv (k + 1) vs
theorem lk_argEnv : ∀ (vs : List V) (k t : Nat), lk (argEnv k vs) t = if k ≤ t then (vs[t - k]?).getD .unk else .unk
  | [], k, t => by simp [argEnv, lk]
  | v :: vs, k, t => by
    rw [argEnv, lk_cons, lk_argEnv vs (k + 1) t]
    by_cases h : k = t
    · subst h; simp
    · rw [if_neg h]
      by_cases h2 : k ≤ t
      · have e : t - k = (t - (k + 1)) + 1 := by omega
        rw [if_pos h2, if_pos (by omega), e, List.getElem?_cons_succ]
      · rw [if_neg h2, if_neg (by omega)]
theorem repL_env {Γ : Cx} {w : World} {args : List V} {us : Array Value} {m : Nat} (h : RepL Γ w args us) (t : Nat) : RepV Γ w (lk (argEnv 0 args) t) ((us ++ Array.replicate m undef).getD t undef) := by
  rw [lk_argEnv]
  simp only [Nat.zero_le, if_true, Nat.sub_zero]
  cases hv : args[t]? with
  | none => exact .unk _
  | some v =>
    have ht : t < us.size := by rw [h.1]; exact (List.getElem?_eq_some_iff.1 hv).1
    rw [Array.getD_eq_getD_getElem?, Array.getElem?_append_left ht, Array.getElem?_eq_getElem ht]
    exact h.2 t v _ hv (Array.getElem?_eq_getElem ht)
def lowF (P : Program) (own : List Nat) (fn : Func) : Option (Nat × LCode × List RL) :=
  match fn.body with
  | none => none
  | some c => match lowCode P fn.ntmps own c, lowRs P fn.results.toList with
    | some lc, some rl => some (fn.ntmps, lc, rl)
    | _, _ => none
structure RetQ (nx : Nat) (rl : List RL) (vs : List V) (σ' : Store) (nx' : Nat) (e : Exit) (st : St) : Prop where
  e : e = .normal ∨ e = .ret
  h : ∃ vs0, resAll st.env st.σ rl = some vs0 ∧ vs0.length = vs.length ∧ Mv nx ⟨argEnv 0 vs0, st.σ, st.nx⟩ ⟨argEnv 0 vs, σ', nx'⟩
theorem CallD.enter {own : List Nat} {fn : Func} {lc : LCode} {rl : List RL} {args vs : List V} {σ σ' : Store} {nx nx' : Nat} (hf : P.funcs[f]? = some fn) (hent : Ent1 P f) (hlow : lowF P own fn = some (N, lc, rl)) (hN : args.length ≤ N) (hle : nx ≤ nx')
    (hin : Wk nx ⟨argEnv 0 args, σ, nx⟩ ⟨argEnv 0 args, σ, nx⟩ id) (h : Sat P N nx lc ⟨argEnv 0 args, σ, nx⟩ (RetQ nx rl vs σ' nx')) : CallD P f args σ nx (retV vs) σ' nx' := by
  obtain ⟨code, hb, hlc, hrl, hNt⟩ : ∃ code, fn.body = some code ∧ lowCode P N own code = some lc ∧ lowRs P fn.results.toList = some rl ∧ fn.ntmps = N := by
    unfold lowF at hlow
    split at hlow
    · cases hlow
    · rename_i c hc
      split at hlow
      · rename_i h1 h2
        cases hlow
        exact ⟨c, hc, h1, h2, rfl⟩
      · cases hlow
  refine ⟨hent, hle, fun Γ w us hst hfr hrep => ?_⟩
  refine callsIn_wide.1 (callsIn_of_wp_marks (n := 0) hf hb trivial ?_)
  -- the state at the head, the names from nx on forgotten
  let a0 : Act := { tmps := us ++ Array.replicate (fn.ntmps - us.size) undef, defers := [] }
  obtain ⟨hc0, hext0⟩ := weaken_core (N := N) (B0 := w.heap.size) (base := nx) (Γ := Γ) (w := w) (a := a0) (st := ⟨argEnv 0 args, σ, nx⟩) (st0 := ⟨argEnv 0 args, σ, nx⟩) (π := id)
    (by simp only [a0, Array.size_append, Array.size_replicate, hrep.1, hNt]; omega) (fun t => repL_env hrep t) hst ⟨[], rfl, ⟨List.nodup_nil, Nat.le_refl _⟩, fun D hD => by cases hD⟩ hin
  let Γ0 := Γ.ren id nx
  have hle0 : CxLe Γ0 Γ := ⟨fun _ h => h, fun i b hb => (by
    simp only [Γ0, Cx.ren] at hb
    split at hb
    · exact hb
    · cases hb), fun i b _ => rfl⟩
  have hlow0 : ∀ i, i < nx → Γ0.ρ i = Γ.ρ i := fun i hi => by simp [Γ0, Cx.ren, hi]
  have hfin : ∀ (e : Exit) (a' : Act) (w1 : World), Post N w.heap.size nx Γ0 w σ (RetQ nx rl vs σ' nx') e a' w1 → (e = .normal ∨ e = .ret) ∧ LeavesInM Fence.wide 0 P fn a'.tmps
      (fun e w' => ∃ u Γ', e = .returned u ∧ RepV Γ' w' (retV vs) u ∧ StoreOk Γ' w' σ' ∧ CxLe Γ Γ' ∧ (∀ id, ¬ (nx ≤ id ∧ id < nx') → Γ'.ρ id = Γ.ρ id ∧ Γ'.κ id = Γ.κ id) ∧ Ext 0 Γ w σ Γ' w' σ') a'.defers .returning w1 := by
    rintro e a' w1 ⟨Γ1, st1, hc1, hext1, ⟨he, vs0, hres, hlen, hmv⟩⟩
    refine ⟨he, ?_⟩
    obtain ⟨Ds, hDs, hnd, hD⟩ := hc1.dfs
    rw [hDs]
    refine leave_marks Ds w1 hnd.1 (fun D hD' => (hD D hD').2.2.2) (fun w2 e1 e2 e3 e4 e5 => ?_)
    -- the marks are taken: nothing that is anyone's turns
    have hI : ∀ k, Γ1.I k → w2.heap[k]? = w1.heap[k]? := fun k hk => e5 k (fun hm => (hD k hm).2.1 hk)
    have hL : ∀ k, Live Γ1 st1.σ k → w2.heap[k]? = w1.heap[k]? := fun k hk => e5 k (fun hm => (hD k hm).2.2.1 hk)
    have hok2 : StoreOk Γ1 w2 st1.σ := hc1.ok.keep (CxLe.refl _) (fun k hk => by rw [e4]; exact hc1.ok.im k hk) hI hL (fun k hl hk => hc1.ok.not_live hk hl)
    have henv2 : ∀ t, RepV Γ1 w2 (lk st1.env t) (a'.tmps.getD t undef) := fun t => (hc1.env t).mono (CxLe.refl _) hI
    obtain ⟨us1, hrun, hul, hug⟩ := results_run (P := P) (fn := fn) henv2 hok2 hrl hres
    refine ⟨_, hrun, (if h : us1.toArray.size = 1 then us1.toArray[0] else .tuple us1.toArray), ?_⟩
    let a2 : Act := { tmps := us1.toArray, defers := [] }
    have henv3 : ∀ t, RepV Γ1 w2 (lk (argEnv 0 vs0) t) (a2.tmps.getD t undef) := fun t => by
      have := repL_env (Γ := Γ1) (w := w2) (args := vs0) (us := us1.toArray) (m := 0) ⟨by simp [hul], fun i v u hv hu => hug i v u hv (by simpa using hu)⟩ t
      simpa [a2] using this
    have hc1' : Conc us1.length 0 nx Γ1 w2 ⟨argEnv 0 vs0, st1.σ, st1.nx⟩ a2 :=
      ⟨by simp [a2], henv3, hok2, hc1.free, hc1.le, ⟨[], rfl, ⟨List.nodup_nil, Nat.zero_le _⟩, fun D hD => by cases hD⟩⟩
    obtain ⟨Γ2, hc2, hext2⟩ := hmv _ _ _ _ _ hc1'
    have hfr2 : ∀ i b, Γ2.ρ i = some b → i < nx' := fun i b hb => by
      rcases Nat.lt_or_ge i nx' with h | h
      · exact h
      · rw [hc2.free i h] at hb; cases hb
    let Γ' : Cx := { I := Γ2.I, ρ := fun i => if nx ≤ i ∧ i < nx' then Γ2.ρ i else Γ.ρ i, κ := fun i => if nx ≤ i ∧ i < nx' then Γ2.κ i else Γ.κ i }
    have hext12 : Ext nx Γ0 w σ Γ1 w2 st1.σ := ⟨e1.trans hext1.os, e2.trans hext1.tape, e3.trans hext1.output, by rw [e4]; exact hext1.size, hext1.im, hext1.new, hext1.ρ, hext1.κ,
      fun k hk hn => (e5 k (fun hm => by have := (hD k hm).1; omega)).trans (hext1.keep k hk hn), hext1.live⟩
    have hext : Ext nx Γ0 w σ Γ2 w2 σ' := hext12.trans hext2
    have h2 : ∀ i, i < nx → Γ2.ρ i = Γ.ρ i ∧ Γ2.κ i = Γ.κ i := fun i hi => ⟨(hext.ρ i hi).trans (hlow0 i hi), hext.κ i hi⟩
    have hle2 : CxLe Γ2 Γ' := ⟨fun _ h => h, fun i b hb => (by
      by_cases hi : nx ≤ i ∧ i < nx'
      · simp only [Γ', hi, and_self, if_true]; exact hb
      · simp only [Γ', hi, if_false]
        have hlt : i < nx' := hfr2 i b hb
        rw [← (h2 i (by omega)).1]; exact hb), fun i b hb => (by
      by_cases hi : nx ≤ i ∧ i < nx'
      · simp only [Γ', hi, and_self, if_true]
      · simp only [Γ', hi, if_false]
        have hlt : i < nx' := hfr2 i b hb
        exact ((h2 i (by omega)).2).symm)⟩
    have hleΓ : CxLe Γ Γ' := ⟨fun k hk => hext.im k hk, fun i b hb => (by
      by_cases hi : nx ≤ i ∧ i < nx'
      · rw [hfr i hi.1 hi.2] at hb; cases hb
      · simp only [Γ', hi, if_false]; exact hb), fun i b hb => (by
      by_cases hi : nx ≤ i ∧ i < nx'
      · rw [hfr i hi.1 hi.2] at hb; cases hb
      · simp only [Γ', hi, if_false])⟩
    have hl0 : ∀ k, Live Γ0 σ k → Live Γ σ k := fun k hk => (hc0.ok.live hle0 k).2 hk
    refine ⟨Γ', rfl, ?_, hc2.ok.keep hle2 (fun k hk => hc2.ok.im k hk) (fun _ _ => rfl) (fun _ _ => rfl) (fun k hl hk => hc2.ok.not_live hk hl), hleΓ, fun i hi => ⟨by simp only [Γ', hi, if_false], by simp only [Γ', hi, if_false]⟩,
      ⟨hext.os, hext.tape, hext.output, hext.size, hext.im, fun k hk => ?_, fun i hi => absurd hi (Nat.not_lt_zero _), fun i hi => absurd hi (Nat.not_lt_zero _), fun k hk hn => hext.keep k hk (fun hl => hn (hl0 k hl)), fun k hk => ?_⟩⟩
    · refine RepV.mono (Γ := Γ2) (w := w2) (retV_rep (by rw [hul, hlen]) (fun i v u hv hu => ?_)) hle2 (fun _ _ => rfl)
      have := hc2.env i
      rw [lk_argEnv] at this
      simp only [Nat.zero_le, if_true, Nat.sub_zero, hv, Option.getD_some] at this
      have hu' : a2.tmps.getD i undef = u := by
        simp only [a2, Array.getD_eq_getD_getElem?, List.getElem?_toArray, hu, Option.getD_some]
      rw [hu'] at this
      exact this
    · rcases hext.new k hk with h3 | h3 | h3
      · exact .inl h3
      · exact .inr (.inl h3)
      · exact .inr (.inr (hl0 k h3))
    · have := (hc2.ok.live hle2 k).1 hk
      exact (hext.live k this).imp (hl0 k) id
  refine wpIn_mono (h none 0 w.heap.size own code (fun _ => rfl) hlc Γ0 Γ0 w w σ a0 hc0 (Ext.refl _ _ _ _)) (fun e a' w1 hp => ?_)
  obtain ⟨he, hl⟩ := hfin e a' w1 hp
  rcases he with rfl | rfl
  · exact hl
  · exact hl
end
end Go.Pw
set_option linter.unusedVariables false
namespace Go.Pw
open Go Go.RowKit
section
variable {P : Program} {N base : Nat}
def fullFrom (M : List Nat) (k : Nat) : Bool := (List.range' k (M.length - k)).all fun i => M.getD i 0 == 2 ^ i - 1
theorem fullFrom_spec {M : List Nat} {m : Nat} (h : fullFrom M m = true) {j k : Nat} (hk : m ≤ k) (hl : k < M.length) (hj : j < k) : ahead M j k = true := by
  have := List.all_eq_true.1 h k (by rw [List.mem_range'_1]; omega)
  unfold ahead
  rw [eq_of_beq this, Nat.testBit_two_pow_sub_one]
  simpa using hj
theorem ssaAfter_app {M : List Nat} {j : Nat} {p : LIns} : ∀ (l m : List LIns) (k : Nat), ssaAfter M j p k (l ++ m) = true → ssaAfter M j p k l = true
  | [], _, _, _ => rfl
  | x :: l, m, k, h => by
    simp only [List.cons_append, ssaAfter, Bool.and_eq_true] at h ⊢
    exact ⟨h.1, ssaAfter_app l m (k + 1) h.2⟩
theorem ssaAll_app {M : List Nat} : ∀ (l m : List LIns) (j : Nat), ssaAll M j (l ++ m) = true → ssaAll M j l = true
  | [], _, _, _ => rfl
  | x :: l, m, j, h => by
    simp only [List.cons_append, ssaAll, Bool.and_eq_true] at h ⊢
    exact ⟨ssaAfter_app l m _ h.1, ssaAll_app l m (j + 1) h.2⟩
theorem lowList_app {own : List Nat} {opsA : Array Oper} : ∀ (l1 l2 : List LIns) (os : List Oper), lowList P N own opsA os = some (l1 ++ l2) → ∃ o1 o2, os = o1 ++ o2 ∧ o1.length = l1.length ∧ lowList P N own opsA o2 = some l2
  | [], l2, os, h => ⟨[], os, rfl, rfl, h⟩
  | x :: l1, l2, os, h => by
    obtain ⟨o, os', rfl, h1, h2⟩ := lowList_cons h
    obtain ⟨o1, o2, rfl, h3, h4⟩ := lowList_app l1 l2 os' h2
    exact ⟨o :: o1, o2, rfl, by simp [h3], h4⟩
theorem seqOrder {F : Fence} {n : Nat} {opsA : Array Oper} {A : Nat → Nat → Bool} {m : Nat} {Q : Exit → Act → World → Prop}
    (hA : ∀ j k, A j k = true → ∃ o, opsA[k]? = some o ∧ ∃ e ∈ o.after, Region.binds .any e = true ∧ (e.on = j ∨ A j e.on = true))
    (hseq : ∀ j k, m ≤ k → k < opsA.size → j < k → A j k = true) :
    ∀ (fuel i : Nat) (listed : Array Bool) (a : Act) (w : World), m ≤ i → listed.size = opsA.size → (∀ j, i ≤ j → j < opsA.size → listed.getD j true = false) → (∀ j, j < i → j < opsA.size → listed.getD j true = true) → opsA.size ≤ fuel + i →
      (∀ j k, A j k = true → listed.getD k true = true → k < opsA.size → listed.getD j true = true) → (∀ k o, opsA[k]? = some o → ∀ e ∈ o.after, Region.binds .any e = true → e.on < k) →
      wpOpsIn F n P opsA Q (List.range' i (opsA.size - i)) a w → wpAnyIn F n P .any opsA Q fuel listed a w := by
  intro fuel
  have hone : ∀ (i : Nat) (listed : Array Bool), m ≤ i → (∀ j, i ≤ j → j < opsA.size → listed.getD j true = false) → (∀ j, j < i → j < opsA.size → listed.getD j true = true) →
      (∀ j k, A j k = true → listed.getD k true = true → k < opsA.size → listed.getD j true = true) → (∀ k o, opsA[k]? = some o → ∀ e ∈ o.after, Region.binds .any e = true → e.on < k) → ∀ k, k ∈ Region.ready .any opsA listed → k = i := by
    intro i listed hm hun hli hcl hback k hk
    obtain ⟨hkl, o, ho, hall⟩ := mem_ready.1 hk
    have hks : k < opsA.size := (Array.getElem?_eq_some_iff.1 ho).1
    rcases Nat.lt_or_ge k i with h1 | h1
    · rw [hli k h1 hks] at hkl; cases hkl
    rcases Nat.lt_or_ge i k with h2 | h2
    · exfalso
      obtain ⟨o2, ho2, e, he, hb, h3⟩ := hA i k (hseq i k (by omega) hks h2)
      rw [ho] at ho2; cases ho2
      have hel := getD_true_of_false (hall e he hb)
      have hi : listed.getD i true = true := by
        rcases h3 with h3 | h3
        · rw [← h3]; exact hel
        · exact hcl i e.on h3 hel (by have := hback k o ho e he hb; omega)
      rw [hun i (Nat.le_refl _) (by omega)] at hi; cases hi
    · omega
  induction fuel with
  | zero =>
    intro i listed a w hm hsz hun hli hf hcl hback h
    rw [show opsA.size - i = 0 by omega] at h
    refine ⟨List.eq_nil_iff_forall_not_mem.2 fun k hk => ?_, h⟩
    have h1 := hone i listed hm hun hli hcl hback k hk
    obtain ⟨_, o, ho, _⟩ := mem_ready.1 hk
    have := (Array.getElem?_eq_some_iff.1 ho).1
    omega
  | succ fuel ih =>
    intro i listed a w hm hsz hun hli hf hcl hback h
    refine ⟨fun hnil => ?_, fun k hk => ?_⟩
    · rcases Nat.lt_or_ge i opsA.size with h1 | h1
      · exfalso
        have : i ∈ Region.ready .any opsA listed := mem_ready.2 ⟨hun i (Nat.le_refl _) h1, opsA[i], Array.getElem?_eq_getElem h1, fun e he hb => by
          have h2 := hback i _ (Array.getElem?_eq_getElem h1) e he hb
          have h3 := hli e.on h2 (by omega)
          rw [Array.getD_eq_getD_getElem?, Array.getElem?_eq_getElem (by omega)] at h3 ⊢
          exact h3⟩
        rw [hnil] at this; cases this
      · rw [show opsA.size - i = 0 by omega] at h; exact h
    · have h1 := hone i listed hm hun hli hcl hback k hk
      subst h1
      obtain ⟨hkl, o, ho, hall⟩ := mem_ready.1 hk
      have hks : k < opsA.size := (Array.getElem?_eq_some_iff.1 ho).1
      rw [show opsA.size - k = (opsA.size - (k + 1)) + 1 by omega, List.range'_succ, wpOpsIn_cons] at h
      have hgo : ∀ a w, wpOpsIn F n P opsA Q (List.range' (k + 1) (opsA.size - (k + 1))) a w → wpAnyIn F n P .any opsA Q fuel (listed.setIfInBounds k true) a w := fun a w h => by
        refine ih (k + 1) _ a w (by omega) (by simpa using hsz) (fun j h2 h3 => ?_) (fun j h2 h3 => ?_) (by omega) (fun j k2 hjk hk2 hk2s => ?_) hback h
        · rw [getD_set_other (by omega)]; exact hun j (by omega) h3
        · rcases Nat.lt_or_ge j k with h4 | h4
          · rw [getD_set_other (by omega)]; exact hli j h4 h3
          · rw [show j = k by omega]; exact getD_set_self
        · have hk2' : k2 ≤ k := by
            rcases Nat.lt_or_ge k k2 with h4 | h4
            · rw [getD_set_other (by omega), hun k2 (by omega) hk2s] at hk2; cases hk2
            · exact h4
          have hjk2 : j < k2 ∨ k2 ≤ j := by omega
          rcases hjk2 with h4 | h4
          · rw [getD_set_other (by omega)]; exact hli j (by omega) (by omega)
          · rcases Nat.lt_or_ge j k with h5 | h5
            · rw [getD_set_other (by omega)]; exact hli j h5 (by omega)
            · rcases Nat.lt_or_ge k j with h6 | h6
              · exfalso
                rcases Nat.lt_or_ge k2 k with h7 | h7
                · have := hcl j k2 hjk (hli k2 h7 (by omega)) hk2s
                  by_cases hjs : j < opsA.size
                  · rw [hun j (by omega) hjs] at this; cases this
                  · obtain ⟨o2, ho2, e, he, hb, h8⟩ := hA j k2 hjk
                    have h9 := hback k2 o2 ho2 e he hb
                    exact Adown hA hback hjk (by omega)
                · exact Adown hA hback hjk (by omega)
              · rw [show j = k by omega]; exact getD_set_self
      unfold wpOpIn at h ⊢
      rw [ho] at h ⊢
      simp only at h ⊢
      split
      · rename_i hw; rw [if_pos hw] at h; exact Oper.wpIn_mono hgo h
      · rename_i hw; rw [if_neg hw] at h; exact ⟨h.1, hgo _ _ h.2⟩
  where
  Adown {opsA : Array Oper} {A : Nat → Nat → Bool} (hA : ∀ j k, A j k = true → ∃ o, opsA[k]? = some o ∧ ∃ e ∈ o.after, Region.binds .any e = true ∧ (e.on = j ∨ A j e.on = true))
      (hback : ∀ k o, opsA[k]? = some o → ∀ e ∈ o.after, Region.binds .any e = true → e.on < k) {j k : Nat} (h : A j k = true) (hjk : k ≤ j) : False := by
    have key : ∀ (n k : Nat), k ≤ n → A j k = true → j < k := by
      intro n
      induction n with
      | zero =>
        intro k hk h
        obtain ⟨o, ho, e, he, hb, _⟩ := hA j k h
        have := hback k o ho e he hb
        omega
      | succ n ih =>
        intro k hk h
        obtain ⟨o, ho, e, he, hb, h1⟩ := hA j k h
        have h2 := hback k o ho e he hb
        rcases h1 with h1 | h1
        · omega
        · have := ih e.on (by omega) h1; omega
    have := key k k (Nat.le_refl _) h
    omega
theorem sched2 {ro : Option Nat} {n B0 nxe m : Nat} {Q : Exit → Act → World → Prop} {own : List Nat} {opsA : Array Oper} {A : Nat → Nat → Bool} {envF : List (Nat × V)} {σF : Store} {Γ0 : Cx} {w0 : World} {σ0 : Store}
    (hback : ∀ k o, opsA[k]? = some o → ∀ e ∈ o.after, Region.binds .any e = true → e.on < k)
    (hm : m < opsA.size) (hseq : ∀ j k, m ≤ k → k < opsA.size → j < k → A j k = true)
    (hend : ∀ (fuel : Nat) (listed : Array Bool) (Γ : Cx) (a : Act) (w : World), listed.size = opsA.size → (∀ j, m ≤ j → j < opsA.size → listed.getD j true = false) → (∀ j, j < m → j < opsA.size → listed.getD j true = true) → opsA.size ≤ fuel + m →
      (∀ j k, A j k = true → listed.getD k true = true → k < opsA.size → listed.getD j true = true) → Conc N B0 base Γ w ⟨envF, σF, nxe⟩ a → Ext base Γ0 w0 σ0 Γ w σF → wpAnyIn (FW ro) n P .any opsA Q fuel listed a w)
    (hA : ∀ j k, A j k = true → ∃ o, opsA[k]? = some o ∧ ∃ e ∈ o.after, Region.binds .any e = true ∧ (e.on = j ∨ A j e.on = true)) :
    ∀ (fuel : Nat) (listed : Array Bool) (rem : List (Nat × Rec)) (env : List (Nat × V)) (σ : Store) (Γ : Cx) (a : Act) (w : World), listed.size = opsA.size →
      (∀ j, (∃ r, (j, r) ∈ rem) ↔ j < m ∧ listed.getD j true = false) → (∀ j, m ≤ j → j < opsA.size → listed.getD j true = false) → rem.Pairwise (fun p q => p.1 < q.1) →
      (∀ j r, (j, r) ∈ rem → ∃ o, opsA[j]? = some o ∧ lowIns P N own opsA o = some r.ins) →
      (∀ j r, (j, r) ∈ rem → VStep P N base r.ins r.lo r.hi r.env r.σ0 r.v r.σ1 ∧ base ≤ r.lo ∧ r.hi ≤ nxe) →
      rem.Pairwise (fun p q => A p.1 q.1 = true ∨ Indep p.2 q.2) → rem.Pairwise (fun p q => p.2.hi ≤ q.2.lo) →
      (∀ j r, (j, r) ∈ rem → ∀ id, r.lo ≤ id → id < r.hi → Γ.ρ id = none) →
      (∀ j k, A j k = true → listed.getD k true = true → k < opsA.size → listed.getD j true = true) →
      T envF σF (rem.map Prod.snd) env σ → Conc N B0 base Γ w ⟨env, σ, nxe⟩ a → Ext base Γ0 w0 σ0 Γ w σ → rem.length + (opsA.size - m) ≤ fuel →
      wpAnyIn (FW ro) n P .any opsA Q fuel listed a w := by
  intro fuel
  have hnilE : ∀ (fuel : Nat) (listed : Array Bool) (env : List (Nat × V)) (σ : Store) (Γ : Cx) (a : Act) (w : World), listed.size = opsA.size → (∀ j, (∃ r : Rec, (j, r) ∈ ([] : List (Nat × Rec))) ↔ j < m ∧ listed.getD j true = false) → (∀ j, m ≤ j → j < opsA.size → listed.getD j true = false) →
      (∀ j k, A j k = true → listed.getD k true = true → k < opsA.size → listed.getD j true = true) → T envF σF [] env σ → Conc N B0 base Γ w ⟨env, σ, nxe⟩ a → Ext base Γ0 w0 σ0 Γ w σ → opsA.size ≤ fuel + m → wpAnyIn (FW ro) n P .any opsA Q fuel listed a w :=
    fun fuel listed env σ Γ a w hsz hrem hun hcl hT hc hext hfuel => hend fuel listed Γ a w hsz hun (fun j h1 h2 => by
      cases h3 : listed.getD j true with
      | true => rfl
      | false => obtain ⟨r, hr⟩ := (hrem j).2 ⟨h1, h3⟩; cases hr) hfuel hcl (hc.same hT.1 hT.2) (hext.same_store hT.2)
  induction fuel with
  | zero =>
    intro listed rem env σ Γ a w hsz hrem hun hidx hops hval hind hnm hfr hcl hT hc hext hfuel
    omega
  | succ fuel ih =>
    intro listed rem env σ Γ a w hsz hrem hun hidx hops hval hind hnm hfr hcl hT hc hext hfuel
    by_cases hnil : rem = []
    · subst hnil
      exact hnilE _ listed env σ Γ a w hsz hrem hun hcl hT hc hext (by simp at hfuel; omega)
    refine ⟨fun hnone => ?_, fun k hk => ?_⟩
    · cases rem with
      | nil => exact absurd rfl hnil
      | cons p rem =>
        obtain ⟨j, r⟩ := p
        exfalso
        obtain ⟨o, ho, hlo⟩ := hops j r (by simp)
        have hjl : listed.getD j true = false := ((hrem j).1 ⟨r, by simp⟩).2
        have hjm : j < m := ((hrem j).1 ⟨r, by simp⟩).1
        have : j ∈ Region.ready .any opsA listed := mem_ready.2 ⟨hjl, o, ho, fun e he hb => ?_⟩
        · rw [hnone] at this; cases this
        · have hlt := hback j o ho e he hb
          have hjs : j < opsA.size := (Array.getElem?_eq_some_iff.1 ho).1
          have hes : e.on < listed.size := by omega
          cases hb' : listed.getD e.on true with
          | true =>
            rw [Array.getD_eq_getD_getElem?, Array.getElem?_eq_getElem hes] at hb' ⊢
            exact hb'
          | false =>
            obtain ⟨r', hr'⟩ := (hrem e.on).2 ⟨by omega, hb'⟩
            rcases List.mem_cons.1 hr' with h1 | h1
            · have : e.on = j := congrArg Prod.fst h1
              omega
            · have : j < e.on := (List.pairwise_cons.1 hidx).1 _ h1
              omega
    · obtain ⟨hkl, o, ho, hall⟩ := mem_ready.1 hk
      have hks' : k < opsA.size := (Array.getElem?_eq_some_iff.1 ho).1
      have hkm : k < m := by
        rcases Nat.lt_or_ge k m with h1 | h1
        · exact h1
        · exfalso
          cases rem with
          | nil => exact absurd rfl hnil
          | cons p rem =>
            obtain ⟨h2, h3⟩ := (hrem p.1).1 ⟨p.2, by simp⟩
            obtain ⟨o2, ho2, e, he, hb, h4⟩ := hA p.1 k (hseq p.1 k h1 hks' (by omega))
            rw [ho] at ho2; cases ho2
            have hel := getD_true_of_false (hall e he hb)
            have : listed.getD p.1 true = true := by
              rcases h4 with h4 | h4
              · rw [← h4]; exact hel
              · exact hcl p.1 e.on h4 hel (by have := hback k o ho e he hb; omega)
            rw [h3] at this; cases this
      obtain ⟨r, hr⟩ := (hrem k).2 ⟨hkm, hkl⟩
      obtain ⟨pre, post, rfl⟩ := List.append_of_mem hr
      obtain ⟨o', ho', hlo⟩ := hops k r hr
      rw [ho] at ho'; cases ho'
      obtain ⟨hvs, hblo, hhie⟩ := hval k r hr
      have hks : k < opsA.size := (Array.getElem?_eq_some_iff.1 ho).1
      have hanc : ∀ j, A j k = true → listed.getD j true = true := fun j hj => by
        obtain ⟨o2, ho2, e, he, hb, h1⟩ := hA j k hj
        rw [ho] at ho2; cases ho2
        have hel := getD_true_of_false (hall e he hb)
        rcases h1 with h1 | h1
        · rw [← h1]; exact hel
        · exact hcl j e.on h1 hel (by have := hback k o ho e he hb; omega)
      have hpre : ∀ p ∈ pre, Indep p.2 r := fun p hp => by
        rcases (List.pairwise_append.1 hind).2.2 p hp (k, r) (by simp) with h1 | h1
        · have h2 := hanc _ h1
          have h3 := ((hrem p.1).1 ⟨p.2, by simp [hp]⟩).2
          rw [h2] at h3; cases h3
        · exact h1
      have hT' : T envF σF (r :: ((pre ++ post).map Prod.snd)) env σ := by
        rw [List.map_append] at hT ⊢
        exact T_front _ hT fun p hp => by
          obtain ⟨q, hq, rfl⟩ := List.mem_map.1 hp
          exact hpre q hq
      obtain ⟨t1, t2, t3⟩ := hT'
      have hsub : (pre ++ post).Sublist (pre ++ (k, r) :: post) := List.Sublist.append (List.Sublist.refl _) (List.sublist_cons_self _ _)
      have hne : ∀ j r', (j, r') ∈ pre ++ post → j ≠ k := fun j r' hj heq => by
        subst heq
        rcases List.mem_append.1 hj with h1 | h1
        · have := (List.pairwise_append.1 hidx).2.2 _ h1 (j, r) (by simp)
          exact Nat.lt_irrefl _ this
        · have := (List.pairwise_cons.1 (List.pairwise_append.1 hidx).2.1).1 _ h1
          exact Nat.lt_irrefl _ this
      show wpOpIn (FW ro) n P opsA _ k _ a w
      unfold wpOpIn
      rw [ho]
      refine hvs ro n B0 own opsA o hlo Γ w a env σ nxe hc t1 t2 (fun id h1 h2 => hfr k r hr id h1 h2) hhie hblo _ _ (fun Γ' w' a' hc' hext' hρ => ?_)
      refine ih (listed.setIfInBounds k true) (pre ++ post) _ _ Γ' a' w' (by simpa using hsz) (fun j => ?_) (fun j h1 h2 => by rw [getD_set_other (by omega)]; exact hun j h1 h2) (hidx.sublist hsub) (fun j r' hj => hops j r' (hsub.subset hj)) (fun j r' hj => hval j r' (hsub.subset hj)) (hind.sublist hsub) (hnm.sublist hsub)
        (fun j r' hj id h1 h2 => ?_) (fun j k2 hjk hk2 hk2s => ?_) t3 hc' (hext.trans hext') (by simp only [List.length_append, List.length_cons] at hfuel ⊢; omega)
      · by_cases hjk : j = k
        · subst hjk
          rw [getD_set_self]
          constructor
          · rintro ⟨r', hr'⟩; exact absurd rfl (hne j r' hr')
          · intro h; cases h.2
        · rw [getD_set_other (Ne.symm hjk), ← hrem j]
          constructor
          · rintro ⟨r', hr'⟩; exact ⟨r', hsub.subset hr'⟩
          · rintro ⟨r', hr'⟩
            refine ⟨r', ?_⟩
            simp only [List.mem_append, List.mem_cons, Prod.mk.injEq, hjk, false_and, false_or] at hr' ⊢
            exact hr'
      · rw [hρ id]
        · exact hfr j r' (hsub.subset hj) id h1 h2
        · rintro ⟨h3, h4⟩
          rcases List.mem_append.1 hj with h5 | h5
          · have := (List.pairwise_append.1 hnm).2.2 _ h5 (k, r) (by simp)
            simp only at this
            omega
          · have := (List.pairwise_cons.1 (List.pairwise_append.1 hnm).2.1).1 _ h5
            simp only at this
            omega
      · by_cases hj : j = k
        · subst hj; exact getD_set_self
        · rw [getD_set_other (Ne.symm hj)]
          by_cases hk2' : k2 = k
          · subst hk2'; exact hanc j hjk
          · rw [getD_set_other (Ne.symm hk2')] at hk2
            exact hcl j k2 hjk hk2 hk2s
theorem wpOpsIn_post {F : Fence} {n : Nat} {opsA : Array Oper} {Q Q' : Exit → Act → World → Prop} (hpost : ∀ e a w, Q e a w → Q' e a w) : ∀ (l : List Nat) (a : Act) (w : World), wpOpsIn F n P opsA Q l a w → wpOpsIn F n P opsA Q' l a w
  | [], _, _, h => hpost _ _ _ h
  | i :: l, a, w, h => by
    rw [wpOpsIn_cons] at h ⊢
    have hk : ∀ a w, wpOpsIn F n P opsA Q l a w → wpOpsIn F n P opsA Q' l a w := fun a w => wpOpsIn_post hpost l a w
    have hh := h
    unfold wpOpIn at hh ⊢
    split
    · rename_i ho; rw [ho] at hh; exact hk _ _ hh
    · rename_i o ho
      rw [ho] at hh
      simp only at hh
      split
      · rename_i hw
        rw [if_pos hw] at hh
        refine ⟨hh.1, ?_⟩
        have hh := hh.2
        generalize (o.semAt F.round a.eval).run P w = r at *
        cases r with
        | ok x w' =>
          cases x <;> simp only [Oper.uponIn] at hh ⊢ <;>
            first
              | exact hk _ _ hh
              | exact ⟨hh.1, CallsIn.mono hh.2 (fun e w'' he => by cases e <;> first | exact hk _ _ he | exact hpost _ _ _ he | (obtain ⟨a1, w1, hq⟩ := he; exact ⟨a1, w1, hpost _ _ _ hq⟩))⟩
              | exact ⟨hh.1, RowsIn.mono hh.2 (fun _ _ he => hk _ _ he)⟩
              | exact ⟨hh.1, RoundIn.mono hh.2 (fun e w'' he => by cases e <;> first | exact hk _ _ he | exact hpost _ _ _ he | (obtain ⟨a1, w1, hq⟩ := he; exact ⟨a1, w1, hpost _ _ _ hq⟩))⟩
        | halt x w' => cases x <;> simp only [Oper.uponIn] at hh ⊢ <;> exact hpost _ _ _ hh
      · rename_i hw
        rw [if_neg hw] at hh
        exact ⟨hh.1, hk _ _ hh.2⟩
theorem Ops.any {ops : List LIns} {st : St} {Q : Exit → St → Prop} (h : Ops P N base ops st fun st' => Q .normal st') {ro : Option Nat} {n B0 : Nat} (own : List Nat) (opsA : Array Oper) (idx : List Nat) (os : List Oper) (hl : lowList P N own opsA os = some ops) (hi : idx.map (opsA[·]?) = os.map some)
    {Γ0 Γ : Cx} {w0 w : World} {σ0 : Store} {a : Act} (hc : Conc N B0 base Γ w st a) (hext : Ext base Γ0 w0 σ0 Γ w st.σ) : wpOpsIn (FW ro) n P opsA (Post N B0 base Γ0 w0 σ0 Q) idx a w :=
  wpOpsIn_post (fun _ _ _ ⟨Γ', st', h1, h2, h3, h4⟩ => ⟨Γ', st', h1, h2, by subst h3; exact h4⟩) idx a w (h ro n B0 own opsA idx os hl hi Γ0 Γ w0 w σ0 a hc hext)
theorem Sat.regionD2 {ops1 ops2 : List LIns} {M ks : List Nat} {st : St} {Q : Exit → St → Prop} {rs : List Rec} {env' : List (Nat × V)} {σ' : Store} {nx' : Nat} (hm : P.follows .mixedOrders = true)
    (h : Tr P N base ops1 st.env st.σ st.nx rs env' σ' nx') (hf : fpAll M 0 (rs.map Rec.fp) = true) (hfull : fullFrom M rs.length = true) (hne : ops2 ≠ []) (h2 : Ops P N base ops2 ⟨env', σ', nx'⟩ fun st' => Q .normal st') : Sat P N base (.regionD (ops1 ++ ops2) M ks) st Q := by
  intro ro n B0 own code hro hl Γ0 Γ w0 w σ0 a hc hext
  obtain ⟨id, opsA, rfl, hlow, hM, hb, hssa⟩ := low_regionD hl
  refine wpIn_region_any hm ?_
  obtain ⟨hlen, hget⟩ := lowList_get opsA.toList (ops1 ++ ops2) hlow
  have hins := h.ins
  have hrl1 : rs.length = ops1.length := by
    have := congrArg List.length hins
    simpa only [List.length_map] using this
  have hrl : rs.length < opsA.size := by
    simp only [List.length_append, Array.length_toList] at hlen
    have := List.length_pos_iff.2 hne
    omega
  have hMl : M.length = opsA.size := by
    obtain ⟨R, hR, hRl, _⟩ := mkMasks_spec opsA.toList []
    rw [hM, hR]; simpa using hRl
  obtain ⟨o1, o2, ho12, ho1, hlow2⟩ := lowList_app ops1 ops2 _ hlow
  have hback : ∀ (k : Nat) (o : Oper), opsA[k]? = some o → ∀ e ∈ o.after, Region.binds .any e = true → e.on < k := fun k o ho e he hbd => by have := backOk_spec _ _ hb k o (by simpa using ho) e he hbd; omega
  have hAll : ∀ j k, ahead M j k = true → ∃ o, opsA[k]? = some o ∧ ∃ e ∈ o.after, Region.binds .any e = true ∧ (e.on = j ∨ ahead M j e.on = true) := fun j k hj => by rw [hM] at hj ⊢; exact ahead_spec hb j k hj
  have hseq : ∀ j k, rs.length ≤ k → k < opsA.size → j < k → ahead M j k = true := fun j k h1 h2 h3 => fullFrom_spec hfull h1 (by omega) h3
  have hmem : ∀ j r, (j, r) ∈ (rs.zipIdx.map fun p => (p.2, p.1)) ↔ rs[j]? = some r := fun j r => by
    simp only [List.mem_map, Prod.mk.injEq, Prod.exists]
    constructor
    · rintro ⟨r', j', h1, rfl, rfl⟩
      exact List.mem_zipIdx_iff_getElem?.1 h1
    · intro h1
      exact ⟨r, j, List.mem_zipIdx_iff_getElem?.2 h1, rfl, rfl⟩
  have hmemr : ∀ j r, (j, r) ∈ (rs.zipIdx.map fun p => (p.2, p.1)) → r ∈ rs := fun j r hj => List.mem_of_getElem? ((hmem j r).1 hj)
  have hconc : Conc N B0 base Γ { w with drawn := w.drawn + 1 } ⟨st.env, st.σ, nx'⟩ a := by
    have hc' := hc.heap (w' := { w with drawn := w.drawn + 1 }) rfl
    exact ⟨hc'.size, hc'.env, hc'.ok, fun id hid => hc'.free id (Nat.le_trans h.le.1 hid), Nat.le_trans hc'.le h.le.1, hc'.dfs⟩
  have hpair := pairs_spec (M := M) rs 0 h.rd (by rw [hins]; exact ssaAll_app _ _ _ hssa) hf
  exact sched2 (A := ahead M) (own := own) (envF := env') (σF := σ') (nxe := nx') (base := base) (N := N) (m := rs.length)
      hback hrl hseq
      (fun fuel listed Γ' a' w' hsz hun hli hfu hcl hc' hext' => by
        refine seqOrder hAll hseq fuel rs.length listed a' w' (Nat.le_refl _) hsz hun hli hfu hcl hback ?_
        refine Ops.any h2 own opsA _ o2 hlow2 ?_ hc' hext'
        have hs : opsA.size = o1.length + o2.length := by rw [← Array.length_toList, ho12, List.length_append]
        rw [hs, hrl1, ← ho1, Nat.add_sub_cancel_left]
        refine List.ext_getElem? fun i => ?_
        simp only [List.getElem?_map]
        rcases Nat.lt_or_ge i o2.length with h1 | h1
        · rw [List.getElem?_range' h1, List.getElem?_eq_getElem h1]
          simp only [Option.map_some, Nat.one_mul]
          rw [← Array.getElem?_toList, ho12, List.getElem?_append_right (by omega), Nat.add_sub_cancel_left, List.getElem?_eq_getElem h1]
        · rw [List.getElem?_eq_none (by simpa using h1), List.getElem?_eq_none h1]; rfl)
      hAll
      opsA.size _ (rs.zipIdx.map fun p => (p.2, p.1)) st.env st.σ Γ a _ (by simp)
      (fun j => by
        constructor
        · rintro ⟨r, hr⟩
          have := (List.getElem?_eq_some_iff.1 ((hmem j r).1 hr)).1
          rw [Array.getD_eq_getD_getElem?, Array.getElem?_replicate, if_pos (by omega)]; exact ⟨this, rfl⟩
        · intro hj
          exact ⟨rs[j]'hj.1, (hmem j _).2 (List.getElem?_eq_getElem hj.1)⟩)
      (fun j _ hj => by rw [Array.getD_eq_getD_getElem?, Array.getElem?_replicate, if_pos hj]; rfl)
      (by
        rw [List.pairwise_map]
        have := List.pairwise_iff_getElem (R := fun p q : Rec × Nat => p.2 < q.2) (l := rs.zipIdx)
        rw [this]
        intro i j hi hj hij
        simp only [List.getElem_zipIdx]
        omega)
      (fun j r hj => by
        have h1 := (hmem j r).1 hj
        have h2 : (ops1 ++ ops2)[j]? = some r.ins := by rw [List.getElem?_append_left (by rw [← hrl1]; exact (List.getElem?_eq_some_iff.1 h1).1), ← hins]; simp [h1]
        obtain ⟨o, ho, hlo⟩ := hget j r.ins h2
        exact ⟨o, by simpa using ho, hlo⟩)
      (fun j r hj => by
        have hr := hmemr j r hj
        exact ⟨h.valid r hr, Nat.le_trans hc.le (h.le.2 r hr).1, (h.le.2 r hr).2⟩)
      (by rw [List.pairwise_map]; exact hpair)
      (by
        rw [List.pairwise_map]
        have h1 := h.names
        have h2 := List.pairwise_iff_getElem (R := fun p q : Rec × Nat => p.1.hi ≤ q.1.lo) (l := rs.zipIdx)
        rw [h2]
        intro i j hi hj hij
        simp only [List.getElem_zipIdx]
        exact (List.pairwise_iff_getElem.1 h1) i j _ _ hij)
      (fun j r hj id h1 h2 => hc.free id (Nat.le_trans (h.le.2 r (hmemr j r hj)).1 h1))
      (fun j k _ hk hks => by
        rw [Array.getD_eq_getD_getElem?, Array.getElem?_replicate, if_pos hks] at hk
        cases hk)
      (by
        rw [List.map_map]
        have : (rs.zipIdx.map (Prod.snd ∘ fun p : Rec × Nat => (p.2, p.1))) = rs := by
          have h3 : (Prod.snd ∘ fun p : Rec × Nat => (p.2, p.1)) = Prod.fst := rfl
          rw [h3]; simp
        rw [this]
        exact h.T _ fun t => RI.refl _)
      hconc (hext.drew _) (by simp; omega)
end
end Go.Pw
set_option linter.unusedVariables false
namespace Go.Pw
open Go Go.RowKit
def idOf : V → List Nat
  | .c (.bp id _) => [id]
  | .c (.ep id _ _ _) => [id]
  | .c (.ms id _) => [id]
  | .c (.mp id) => [id]
  | _ => []
def foot (ev : Operand → V) : LOp → List Nat
  | .load _ _ a => idOf (ev a)
  | .store _ a _ => idOf (ev a)
  | .append _ _ _ _ x y => idOf (ev x) ++ idOf (ev y)
  | .mset _ a _ _ => idOf (ev a)
  | .lenM a => idOf (ev a)
  | .mget _ _ a _ => idOf (ev a)
  | .slc _ x _ _ => idOf (ev x)
  | _ => []
def pickS (σ : Store) : List Nat → Store
  | [] => []
  | i :: is => match get σ i with
    | some e => (i, e) :: pickS σ is
    | none => pickS σ is
theorem pickS_sub {σ : Store} : ∀ (l : List Nat), Sub (pickS σ l) σ
  | [], id, e, h => by simp [pickS, get] at h
  | i :: is, id, e, h => by
    simp only [pickS] at h
    split at h
    · rename_i x hx
      rw [get_cons] at h
      split at h
      · rename_i hi; subst hi; cases h; exact hx
      · exact pickS_sub is id e h
    · exact pickS_sub is id e h
def frS {R : Type} : Store → (Store → R) → R
  | [], k => k []
  | (i, e) :: l, k => frS l fun l' => k ((i, e) :: l')
theorem frS_eq {R : Type} : ∀ (l : Store) (k : Store → R), frS l k = k l
  | [], _ => rfl
  | (i, e) :: l, k => by simp only [frS, frS_eq l]
def frN {R : Type} : List Nat → (List Nat → R) → R
  | [], k => k []
  | i :: l, k => frN l fun l' => k (i :: l')
theorem frN_eq {R : Type} : ∀ (l : List Nat) (k : List Nat → R), frN l k = k l
  | [], _ => rfl
  | i :: l, k => by simp only [frN, frN_eq l]
section
variable {P : Program} {N base : Nat}
def OpsD (P : Program) (N base : Nat) (M : List Nat) (_n0 : Nat) (_ks : List Nat) (ops : List LIns) (st : St) (acc : List (Bool × List Nat)) (K : St → Prop) : Prop :=
  ∃ ops1 ops2 rs env' σ' nx', ops = ops1 ++ ops2 ∧ Tr P N base ops1 st.env st.σ st.nx rs env' σ' nx' ∧ fpAll M 0 (acc.reverse ++ rs.map Rec.fp) = true ∧
    (ops2 = [] ∧ K ⟨env', σ', nx'⟩ ∨ ops2 ≠ [] ∧ fullFrom M (acc.length + rs.length) = true ∧ Ops P N base ops2 ⟨env', σ', nx'⟩ K)
variable {M : List Nat} {n0 : Nat} {ks : List Nat} {ops : List LIns} {st : St} {acc : List (Bool × List Nat)} {K : St → Prop} {Q : Exit → St → Prop}
theorem Sat.drawn (hm : P.follows .mixedOrders = true) (h : OpsD P N base M st.nx ks ops st [] fun st' => Q .normal st') : Sat P N base (.regionD ops M ks) st Q := by
  obtain ⟨ops1, ops2, rs, env', σ', nx', rfl, h1, h2, h3⟩ := h
  rcases h3 with ⟨rfl, h3⟩ | ⟨h3, h4, h5⟩
  · rw [List.append_nil]; exact Sat.regionD hm h1 h2 h3
  · exact Sat.regionD2 hm h1 h2 (by simpa using h4) h3 h5
theorem OpsD.nil (hf : fpAll M 0 acc.reverse = true) (h : K st) : OpsD P N base M n0 ks [] st acc K :=
  ⟨[], [], [], st.env, st.σ, st.nx, rfl, .nil _ _ _, by simpa using hf, .inl ⟨rfl, h⟩⟩
theorem OpsD.seq {i : LIns} (hf : fpAll M 0 acc.reverse = true) (hM : fullFrom M acc.length = true) (h : Ops P N base (i :: ops) st K) : OpsD P N base M n0 ks (i :: ops) st acc K :=
  ⟨[], i :: ops, [], st.env, st.σ, st.nx, rfl, .nil _ _ _, by simpa using hf, .inr ⟨by simp, by simpa using hM, h⟩⟩
theorem OpsD.know (t : Nat) (b : Bool) (h : lk st.env t = vbl b) (h1 : b = true → OpsD P N base M n0 ks ops ⟨(t, .c .tru) :: st.env, st.σ, st.nx⟩ acc K) (h2 : b = false → OpsD P N base M n0 ks ops ⟨(t, .c .fls) :: st.env, st.σ, st.nx⟩ acc K) : OpsD P N base M n0 ks ops st acc K := by
  cases b with
  | true =>
    obtain ⟨ops1, ops2, rs, env', σ', nx', rfl, h3, h4, h5⟩ := h1 rfl
    exact ⟨ops1, ops2, rs, env', σ', nx', rfl, .know t true h h3, h4, h5⟩
  | false =>
    obtain ⟨ops1, ops2, rs, env', σ', nx', rfl, h3, h4, h5⟩ := h2 rfl
    exact ⟨ops1, ops2, rs, env', σ', nx', rfl, .know t false h h3, h4, h5⟩
theorem OpsD.step {i : LIns} {rest : List LIns} {σ0 σ1 : Store} {lo hi k : Nat} {v : V} (hv : VStep P N base i lo hi st.env σ0 v σ1) (hs : Sub σ0 st.σ) (hlo : st.nx ≤ lo) (hhi : lo ≤ hi) (rd : Bool) (hrd : rd = true → σ1 = σ0)
    (h : OpsD P N base M n0 ks rest ⟨putE st.env i.dst v, app σ0 σ1 st.σ, hi⟩ ((rd, dom σ0 ++ dom σ1) :: acc) K) : OpsD P N base M n0 (k :: ks) (i :: rest) st acc K := by
  obtain ⟨ops1, ops2, rs, env', σ', nx', rfl, h3, h4, h5⟩ := h
  refine ⟨i :: ops1, ops2, _, env', σ', nx', rfl, .step hv hs hlo hhi rd hrd h3, ?_, ?_⟩
  · simpa [Rec.fp, Rec.ids] using h4
  · rw [List.length_cons, Nat.add_right_comm] at h5; exact h5
theorem OpsD.call {i : LIns} {rest : List LIns} {σ0 σ1 : Store} {hi k : Nat} {v : V} {f : FuncId} {ids : List Nat} {fop : Operand} {xs : List Operand} {args : List V} (hg : guardOf st.env i.guard = .run) (hop : i.op = .call fop xs) (hf : evo st.env fop = .c (.fn f ids))
    (hargs : RIs (xs.map (evo st.env) ++ ids.map fun k => .c (.bp k 0)) args) (hc : CallD P f args σ0 st.nx v σ1 hi) (hs : Sub σ0 st.σ)
    (h : OpsD P N base M n0 ks rest ⟨putE st.env i.dst v, app σ0 σ1 st.σ, hi⟩ ((false, dom σ0 ++ dom σ1) :: acc) K) : OpsD P N base M n0 (k :: ks) (i :: rest) st acc K :=
  OpsD.step (VStep.call hg hop hf hargs hc) hs (Nat.le_refl _) hc.2.1 false (fun h => by cases h) h
theorem OpsD.callR {i : LIns} {rest : List LIns} {σ0 σ1 : Store} {hi k : Nat} {v : V} {f : FuncId} {rows : List (List D)} {fop : Operand} {xs : List Operand} {args : List V} (hg : guardOf st.env i.guard = .run) (hop : i.op = .call fop xs) (hf : evo st.env fop = .c (.fnR f rows))
    (hargs : RIs (xs.map (evo st.env) ++ rows.map fun r => .c (.rp r)) args) (hc : CallD P f args σ0 st.nx v σ1 hi) (hs : Sub σ0 st.σ)
    (h : OpsD P N base M n0 ks rest ⟨putE st.env i.dst v, app σ0 σ1 st.σ, hi⟩ ((false, dom σ0 ++ dom σ1) :: acc) K) : OpsD P N base M n0 (k :: ks) (i :: rest) st acc K :=
  OpsD.step (VStep.callR hg hop hf hargs hc) hs (Nat.le_refl _) hc.2.1 false (fun h => by cases h) h
theorem Ops.vstep {i : LIns} {rest : List LIns} {σ0 σ1 : Store} {hi : Nat} {v : V} (hv : VStep P N base i st.nx hi st.env σ0 v σ1) (hs : Sub σ0 st.σ) (hhi : st.nx ≤ hi) (h : Ops P N base rest ⟨putE st.env i.dst v, app σ0 σ1 st.σ, hi⟩ K) : Ops P N base (i :: rest) st K := by
  intro ro n B0 own opsA idx os hl hidx Γ0 Γ w0 w σ0' a hc hext
  obtain ⟨o, os', rfl, hi', hl'⟩ := lowList_cons hl
  match idx, hidx with
  | k :: idx, hidx =>
    simp only [List.map_cons, List.cons.injEq] at hidx
    obtain ⟨hk, hidx⟩ := hidx
    have hc' : Conc N B0 base Γ w ⟨st.env, st.σ, hi⟩ a := ⟨hc.size, hc.env, hc.ok, fun id hid => hc.free id (Nat.le_trans hhi hid), Nat.le_trans hc.le hhi, hc.dfs⟩
    have := hv ro n B0 own opsA o hi' Γ w a st.env st.σ hi hc' (fun t _ => RI.refl _) hs (fun id h1 _ => hc.free id h1) (Nat.le_refl _) hc.le
      (wpOpsIn (FW ro) n P opsA (Post N B0 base Γ0 w0 σ0' fun e st' => e = .normal ∧ K st') idx) (Post N B0 base Γ0 w0 σ0' fun e st' => e = .normal ∧ K st')
      (fun Γ' w' a' hc2 hext2 _ => h ro n B0 own opsA idx os' hl' hidx Γ0 Γ' w0 w' σ0' a' hc2 (hext.trans hext2))
    simp only [wpOpsIn, hk]
    exact this
theorem Ops.call {i : LIns} {rest : List LIns} {σ0 σ1 : Store} {hi : Nat} {v : V} {f : FuncId} {ids : List Nat} {fop : Operand} {xs : List Operand} {args : List V} (hg : guardOf st.env i.guard = .run) (hop : i.op = .call fop xs) (hf : evo st.env fop = .c (.fn f ids))
    (hargs : RIs (xs.map (evo st.env) ++ ids.map fun k => .c (.bp k 0)) args) (hc : CallD P f args σ0 st.nx v σ1 hi) (hs : Sub σ0 st.σ)
    (h : Ops P N base rest ⟨putE st.env i.dst v, app σ0 σ1 st.σ, hi⟩ K) : Ops P N base (i :: rest) st K :=
  Ops.vstep (VStep.call hg hop hf hargs hc) hs hc.2.1 h
theorem Ops.callR {i : LIns} {rest : List LIns} {σ0 σ1 : Store} {hi : Nat} {v : V} {f : FuncId} {rows : List (List D)} {fop : Operand} {xs : List Operand} {args : List V} (hg : guardOf st.env i.guard = .run) (hop : i.op = .call fop xs) (hf : evo st.env fop = .c (.fnR f rows))
    (hargs : RIs (xs.map (evo st.env) ++ rows.map fun r => .c (.rp r)) args) (hc : CallD P f args σ0 st.nx v σ1 hi) (hs : Sub σ0 st.σ)
    (h : Ops P N base rest ⟨putE st.env i.dst v, app σ0 σ1 st.σ, hi⟩ K) : Ops P N base (i :: rest) st K :=
  Ops.vstep (VStep.callR hg hop hf hargs hc) hs hc.2.1 h
end
end Go.Pw
set_option linter.unusedVariables false
namespace Go.Pw
open Go Go.RowKit
section
variable {P : Program} {N base : Nat} {M : List Nat} {n0 : Nat} {ks : List Nat} {st : St} {acc : List (Bool × List Nat)} {K : St → Prop} {Q : Exit → St → Prop}
theorem Ops.pcall {i : LIns} {rest : List LIns} {v : V} {f : FuncId} {fop : Operand} {xs : List Operand} {args : List V} (hg : guardOf st.env i.guard = .run) (hop : i.op = .call fop xs) (hf : evo st.env fop = .c (.fn f []))
    (hargs : RIs (xs.map (evo st.env)) args) (hc : PFD P f args v) (h : Ops P N base rest ⟨putE st.env i.dst v, st.σ, st.nx⟩ K) : Ops P N base (i :: rest) st K :=
  Ops.call (σ0 := []) (σ1 := []) hg hop hf (by simpa using hargs) (hc.at st.nx) (fun id e h => by simp [get] at h) h
theorem OpsD.pcall {i : LIns} {rest : List LIns} {k : Nat} {v : V} {f : FuncId} {fop : Operand} {xs : List Operand} {args : List V} (hg : guardOf st.env i.guard = .run) (hop : i.op = .call fop xs) (hf : evo st.env fop = .c (.fn f []))
    (hargs : RIs (xs.map (evo st.env)) args) (hc : PFD P f args v) (h : OpsD P N base M n0 ks rest ⟨putE st.env i.dst v, st.σ, st.nx⟩ ((false, []) :: acc) K) : OpsD P N base M n0 (k :: ks) (i :: rest) st acc K :=
  OpsD.call (σ0 := []) (σ1 := []) hg hop hf (by simpa using hargs) (hc.at st.nx) (fun id e h => by simp [get] at h) h
theorem Ops.pcallR {i : LIns} {rest : List LIns} {v : V} {f : FuncId} {rows : List (List D)} {fop : Operand} {xs : List Operand} {args : List V} (hg : guardOf st.env i.guard = .run) (hop : i.op = .call fop xs) (hf : evo st.env fop = .c (.fnR f rows))
    (hargs : RIs (xs.map (evo st.env) ++ rows.map fun r => .c (.rp r)) args) (hc : PFD P f args v) (h : Ops P N base rest ⟨putE st.env i.dst v, st.σ, st.nx⟩ K) : Ops P N base (i :: rest) st K :=
  Ops.callR (σ0 := []) (σ1 := []) hg hop hf hargs (hc.at st.nx) (fun id e h => by simp [get] at h) h
theorem OpsD.pcallR {i : LIns} {rest : List LIns} {k : Nat} {v : V} {f : FuncId} {rows : List (List D)} {fop : Operand} {xs : List Operand} {args : List V} (hg : guardOf st.env i.guard = .run) (hop : i.op = .call fop xs) (hf : evo st.env fop = .c (.fnR f rows))
    (hargs : RIs (xs.map (evo st.env) ++ rows.map fun r => .c (.rp r)) args) (hc : PFD P f args v) (h : OpsD P N base M n0 ks rest ⟨putE st.env i.dst v, st.σ, st.nx⟩ ((false, []) :: acc) K) : OpsD P N base M n0 (k :: ks) (i :: rest) st acc K :=
  OpsD.callR (σ0 := []) (σ1 := []) hg hop hf hargs (hc.at st.nx) (fun id e h => by simp [get] at h) h
theorem RI.tru : RI (.c .tru) (vbl true) := VEq.ri (.c _ _ .tru)
theorem RI.fls : RI (.c .fls) (vbl false) := VEq.ri (.c _ _ .fls)
theorem RI.nil (s : Nat) (f : Nat → List D) : RI (.c (.d (.v (.slice none 0 0)))) (.c (.d (.sl s 0 f))) := fun Γ w u h => by
  cases h with
  | c _ _ h =>
    refine .c _ _ ?_
    generalize hd : D.v (.slice none 0 0) = d at h
    cases (show RepD Γ.I w d u from h) <;> first | cases hd
    exact .slE _ _ _ _
theorem RI.z (s : Nat) (f : Nat → List D) : RI (.c .z) (.c (.d (.sl s 0 f))) := fun Γ w u h => by
  cases h with
  | c _ _ h => obtain ⟨A, rfl⟩ := h; exact .c _ _ (.slE _ _ _ _)
theorem Conc.nilms {B0 : Nat} {Γ : Cx} {w : World} {a : Act} {t : Nat} (e : TypeId) (s : Nat) (f : Nat → List D) (hc : Conc N B0 base Γ w st a) (h : lk st.env t = .c (.d (.v (.slice none 0 0)))) :
    ∃ Γ', Conc N B0 base Γ' w ⟨(t, .c (.ms st.nx 0)) :: st.env, (st.nx, .row e s 0 f false) :: st.σ, st.nx + 1⟩ a ∧ Ext base Γ w st.σ Γ' w ((st.nx, .row e s 0 f false) :: st.σ) := by
  have hid := hc.free st.nx (Nat.le_refl _)
  obtain ⟨h1, h2⟩ := name_nil hc.ok hid hc.le e s f
  have hle := CxLe.upd Γ 0 none hid
  refine ⟨_, ⟨hc.size, fun t' => ?_, h1, fun id hid' => ?_, Nat.le_succ_of_le hc.le, ?_⟩, h2⟩
  · rw [lk_cons]
    split
    · rename_i ht
      subst ht
      have := hc.env t
      rw [h] at this
      generalize a.tmps.getD t undef = u at this ⊢
      cases this with
      | c _ _ hr =>
        refine .c _ _ ⟨0, upd_ρ_same, .inl ⟨rfl, upd_κ_same, ?_⟩⟩
        generalize hd : D.v (.slice none 0 0) = d at hr
        cases (show RepD Γ.I w d u from hr) <;> first | cases hd
        rfl
    · exact (hc.env t').mono hle (fun _ _ => rfl)
  · rw [upd_ρ (by have : st.nx + 1 ≤ id := hid'; omega)]; exact hc.free id (by have : st.nx + 1 ≤ id := hid'; omega)
  · obtain ⟨Ds, d1, d2, d3⟩ := hc.dfs
    refine ⟨Ds, d1, d2, fun D hD => ?_⟩
    obtain ⟨d4, d5, d6, d7⟩ := d3 D hD
    refine ⟨d4, d5, fun hl => ?_, d7⟩
    rcases h2.live D hl with h3 | h3
    · exact d6 h3
    · have := (Array.getElem?_eq_some_iff.1 d7).1; omega
theorem Sat.nilms {x : LCode} (t : Nat) (e : TypeId) (s : Nat) (f : Nat → List D) (h : lk st.env t = .c (.d (.v (.slice none 0 0)))) (k : Sat P N base x ⟨(t, .c (.ms st.nx 0)) :: st.env, (st.nx, .row e s 0 f false) :: st.σ, st.nx + 1⟩ Q) : Sat P N base x st Q := by
  intro ro n B0 own code hro hl Γ0 Γ w0 w σ0 a hc hext
  obtain ⟨Γ', h1, h2⟩ := hc.nilms e s f h
  exact k ro n B0 own code hro hl Γ0 Γ' w0 w σ0 a h1 (hext.trans h2)
theorem ms_data {Γ : Cx} {w : World} {σ : Store} {id : Nat} {e : TypeId} {s m n : Nat} {f : Nat → List D} {fz : Bool} {u : Value} (hok : StoreOk Γ w σ) (hg : get σ id = some (.row e s m f fz)) (hn : n ≤ m) (h : RepC Γ w (.ms id n) u) :
    ∃ b, Γ.ρ id = some b ∧ ∀ Γ' : Cx, (∀ k, Γ.I k → Γ'.I k) → ((∃ c, Γ.κ id = some c) → Γ'.I b) → RepC Γ' w (.d (.sl s n f)) u := by
  obtain ⟨b, hb, hor⟩ := h
  refine ⟨b, hb, fun Γ' hle hI => ?_⟩
  rcases hor with ⟨rfl, _, rfl⟩ | ⟨c, hκ, rfl⟩
  · exact .slE _ _ _ _
  · obtain ⟨b', hb', he⟩ := hok.ok id _ hg
    rw [hb] at hb'; cases hb'
    rcases he with ⟨h1, _⟩ | ⟨c', h1, h2, h3, h4, h5, h6, xs, h7, h8, h9⟩
    · rw [hκ] at h1; cases h1
    · rw [hκ] at h1; cases h1
      refine .sl s n f ⟨b, 0, none⟩ c (fun i j => (xs[i * s + j]?).getD undef) (by omega) (hI ⟨c, hκ⟩) (fun i hi => h6 i (by omega)) (fun i j d hi hd => ?_) (fun i j d hi hd => ?_)
      · obtain ⟨x, hx, _⟩ := h9 i j d (by omega) hd
        rw [cell_at h7, hx]
        simp [hx]
      · obtain ⟨x, hx, hr⟩ := h9 i j d (by omega) hd
        rw [hx]
        exact hr.mono hle (fun _ _ => rfl)
theorem Conc.freeze {B0 : Nat} {Γ : Cx} {w : World} {a : Act} {id : Nat} {e : TypeId} {s m : Nat} {f : Nat → List D} {fz : Bool} (hc : Conc N B0 base Γ w st a) (hg : get st.σ id = some (.row e s m f fz)) :
    ∃ Γ' b, Γ.ρ id = some b ∧ Γ' = Γ.also (fun k => k = b ∧ ∃ c, Γ.κ id = some c) ∧ Conc N B0 base Γ' w ⟨st.env, set st.σ id (.row e s m f true), st.nx⟩ a ∧ Ext base Γ w st.σ Γ' w (set st.σ id (.row e s m f true)) := by
  obtain ⟨b, hb, hok⟩ := hc.ok.ok id _ hg
  have h1 := hc.ok.freeze hg hb
  have hlv : ∀ k, Live (Γ.also fun k => k = b ∧ ∃ c, Γ.κ id = some c) (set st.σ id (.row e s m f true)) k → Live Γ st.σ k := fun k hk => live_set_frozen hg (live_also.1 hk)
  have hext : Ext base Γ w st.σ (Γ.also fun k => k = b ∧ ∃ c, Γ.κ id = some c) w (set st.σ id (.row e s m f true)) :=
    ⟨rfl, rfl, rfl, Nat.le_refl _, fun k hk => .inl hk, fun k hk => by
      rcases hk with hk | ⟨rfl, hcc⟩
      · exact .inl hk
      · rcases hc.ok.or_live hg hb hcc with h2 | h2
        · exact .inl h2
        · exact .inr (.inr ⟨id, h2, hb⟩), fun _ _ => rfl, fun _ _ => rfl, fun _ _ _ => rfl, fun k hk => .inl (hlv k hk)⟩
  refine ⟨_, b, hb, rfl, ⟨hc.size, fun t => (hc.env t).mono (CxLe.also _ _) (fun _ _ => rfl), h1, hc.free, hc.le, ?_⟩, hext⟩
  obtain ⟨Ds, d1, d2, d3⟩ := hc.dfs
  refine ⟨Ds, d1, d2, fun D hD => ?_⟩
  obtain ⟨d4, d5, d6, d7⟩ := d3 D hD
  refine ⟨d4, fun hI => ?_, fun hl => d6 (hlv D hl), d7⟩
  rcases hext.new D hI with h3 | h3 | h3
  · exact d5 h3
  · have := (Array.getElem?_eq_some_iff.1 d7).1; omega
  · exact d6 h3
theorem Sat.freeze {x : LCode} (t id : Nat) {n : Nat} {e : TypeId} {s m : Nat} {f : Nat → List D} {fz : Bool} (h : lk st.env t = .c (.ms id n)) (hg : get st.σ id = some (.row e s m f fz)) (hn : n ≤ m)
    (k : Sat P N base x ⟨(t, .c (.d (.sl s n f))) :: st.env, set st.σ id (.row e s m f true), st.nx⟩ Q) : Sat P N base x st Q := by
  intro ro n' B0 own code hro hl Γ0 Γ w0 w σ0 a hc hext
  obtain ⟨Γ', b, hb, rfl, h1, h2⟩ := hc.freeze hg
  refine k ro n' B0 own code hro hl Γ0 _ w0 w σ0 a ⟨h1.size, fun t' => ?_, h1.ok, h1.free, h1.le, h1.dfs⟩ (hext.trans h2)
  rw [lk_cons]
  split
  · rename_i ht
    subst ht
    have := hc.env t
    rw [h] at this
    cases this with
    | c _ _ hr =>
      obtain ⟨b', hb', hd⟩ := ms_data hc.ok hg hn hr
      rw [hb] at hb'; cases hb'
      exact .c _ _ (hd _ (fun k hk => .inl hk) (fun hcc => .inr ⟨rfl, hcc⟩))
  · exact h1.env t'
end
end Go.Pw
set_option linter.unusedVariables false
namespace Go.Pw
open Go Go.RowKit
def CallS (P : Program) (f : FuncId) (args : List V) (σ : Store) (nx : Nat) (R : V → Store → Nat → Prop) : Prop :=
  Ent1 P f ∧ ∀ (Γ : Cx) (w : World) (us : Array Value), StoreOk Γ w σ → (∀ id, nx ≤ id → Γ.ρ id = none) → RepL Γ w args us →
    Calls P f us w fun e w' => ∃ u v Γ' σ' nx', e = .returned u ∧ R v σ' nx' ∧ RepV Γ' w' v u ∧ StoreOk Γ' w' σ' ∧ Ext nx Γ w σ Γ' w' σ' ∧ (∀ id, nx' ≤ id → Γ'.ρ id = none) ∧ nx ≤ nx'
section
variable {P : Program} {N base : Nat} {st : St} {K : St → Prop} {rest : List LIns} {i : LIns}
theorem ext_cxle {Γ Γ' : Cx} {w w' : World} {σ σ' : Store} {nx : Nat} (h : Ext nx Γ w σ Γ' w' σ') (hf : ∀ id, nx ≤ id → Γ.ρ id = none) : CxLe Γ Γ' := by
  have key : ∀ id b, Γ.ρ id = some b → id < nx := fun id b hb => by
    rcases Nat.lt_or_ge id nx with h1 | h1
    · exact h1
    · rw [hf id h1] at hb; cases hb
  exact ⟨h.im, fun id b hb => by rw [h.ρ id (key id b hb)]; exact hb, fun id b hb => h.κ id (key id b hb)⟩
theorem Conc.putS {B0 : Nat} {Γ Γ' : Cx} {w w' : World} {a : Act} {σ' : Store} {nx' : Nat} {v : V} {u : Value} {dst : Option Nat} (h : Conc N B0 base Γ w st a) (hd : ∀ d, dst = some d → d < N) (hv : RepV Γ' w' v u)
    (hst : StoreOk Γ' w' σ') (hext : Ext st.nx Γ w st.σ Γ' w' σ') (hfree : ∀ id, nx' ≤ id → Γ'.ρ id = none) (hle : st.nx ≤ nx') :
    Conc N B0 base Γ' w' ⟨putE st.env dst v, σ', nx'⟩ (a.put dst u) := by
  have h' : Conc N B0 base Γ w ⟨st.env, st.σ, nx'⟩ a := ⟨h.size, h.env, h.ok, fun id hid => h.free id (Nat.le_trans hle hid), Nat.le_trans h.le hle, h.dfs⟩
  exact h'.put2 hd hv hst (ext_cxle hext h.free) (hext.mono h.le) hfree
theorem call_reps {B0 : Nat} {Γ : Cx} {w : World} {a : Act} {c : Call} {xs : List Operand} {ids bs : List Nat} (hc : Conc N B0 base Γ w st a) (hxs : c.args.toList = xs) (hbl : bs.length = ids.length) (hbs : ∀ (j i : Nat), ids[j]? = some i → ∃ b, Γ.ρ i = some b ∧ bs[j]? = some b) :
    RepL Γ w (xs.map (evo st.env) ++ ids.map fun k => .c (.bp k 0)) (c.args.map a.eval ++ (bs.map fun b => ptr b 0).toArray) := by
  have e1 : c.args.size = xs.length := by rw [← hxs]; simp
  refine ⟨by simp [hbl, ← hxs], fun j v u hv hu => ?_⟩
  by_cases hj : j < xs.length
  · rw [List.getElem?_append_left (by simpa using hj)] at hv
    rw [Array.getElem?_append_left (by simpa [e1] using hj)] at hu
    simp only [List.getElem?_map, Option.map_eq_some_iff] at hv
    obtain ⟨x, hx, rfl⟩ := hv
    have hx' : c.args[j]? = some x := by rw [← hxs] at hx; simpa using hx
    simp only [Array.getElem?_map, hx', Option.map_some, Option.some.injEq] at hu
    subst hu
    exact hc.ev x
  · rw [List.getElem?_append_right (by simpa using hj)] at hv
    rw [Array.getElem?_append_right (by simp [e1]; omega)] at hu
    simp only [List.length_map, List.getElem?_map, Option.map_eq_some_iff] at hv
    obtain ⟨k, hk, rfl⟩ := hv
    obtain ⟨b, hb, hb'⟩ := hbs _ k hk
    simp only [Array.size_map, e1, List.getElem?_toArray, List.getElem?_map, hb', Option.map_some, Option.some.injEq] at hu
    subst hu
    exact .c _ _ ⟨b, hb, rfl⟩
theorem Ops.callS {f : FuncId} {ids : List Nat} {fop : Operand} {xs : List Operand} (hg : guardOf st.env i.guard = .run) (hop : i.op = .call fop xs) (hf : evo st.env fop = .c (.fn f ids))
    (h : CallS P f (xs.map (evo st.env) ++ ids.map fun k => .c (.bp k 0)) st.σ st.nx fun v σ' nx' => Ops P N base rest ⟨putE st.env i.dst v, σ', nx'⟩ K) : Ops P N base (i :: rest) st K := by
  intro ro n B0 own opsA idx os hl hidx Γ0 Γ w0 w σ0' a hc hext
  obtain ⟨o, os', rfl, hi', hl'⟩ := lowList_cons hl
  match idx, hidx with
  | k :: idx, hidx =>
    simp only [List.map_cons, List.cons.injEq] at hidx
    obtain ⟨hk, hidx⟩ := hidx
    obtain ⟨⟨b, hop'⟩, hdst, hdN, hgd⟩ := lowIns_some hi'
    obtain ⟨c, hoc, hcal, hxs⟩ := low_call (hop' ▸ hop : lowOp P b o = .call fop xs)
    have hfr' := hc.ev fop
    rw [hf] at hfr'
    obtain ⟨bs, hbl, hbs, hfu⟩ : ∃ bs : List Nat, bs.length = ids.length ∧ (∀ (j i : Nat), ids[j]? = some i → ∃ b, Γ.ρ i = some b ∧ bs[j]? = some b) ∧ a.eval fop = .func (.func f) #[] (bs.map fun b => ptr b 0).toArray := by
      generalize a.eval fop = u at hfr' ⊢
      cases hfr' with | c _ _ h => exact h
    have hrun := run_call (P := P) (w := w) h.1 hoc hcal hfu
    have hw : Region.wanted o (yielded opsA a.tmps) = true := (guardOf_run (i := i) (σ := st.σ) (nx := st.nx) hg).wanted hc hgd
    simp only [wpOpsIn, hk, hw, if_true, Oper.wpIn]
    refine ⟨fun _ _ => trivial, ?_⟩
    rw [Oper.semAt_eq _ _ o (fun c' h' => by rw [hoc] at h'; cases h'), hrun, Oper.uponIn_enter]
    refine ⟨fun h => by simp [FW, Fence.wide] at h, Calls.fw ((h.2 Γ w _ hc.ok hc.free (call_reps hc hxs hbl hbs)).mono ?_)⟩
    rintro e w' ⟨u, v, Γ', σ', nx', rfl, hR, hv, hst, hext', hfree, hle⟩
    have hc' := hc.putS (dst := o.dst) hdN hv hst hext' hfree hle
    exact hR ro n B0 own opsA idx os' hl' hidx Γ0 Γ' w0 w' σ0' _ (by rw [hdst]; exact hc') (hext.trans (hext'.mono hc.le))
theorem CallS.enter {own : List Nat} {f : FuncId} {fn : Func} {lc : LCode} {rl : List RL} {args : List V} {σ : Store} {nx : Nat} {R : V → Store → Nat → Prop} (hf : P.funcs[f]? = some fn) (hent : Ent1 P f) (hlow : lowF P own fn = some (N, lc, rl)) (hN : args.length ≤ N)
    (h : Sat P N nx lc ⟨argEnv 0 args, σ, nx⟩ fun e st' => (e = .normal ∨ e = .ret) ∧ ∃ vs0, resAll st'.env st'.σ rl = some vs0 ∧ R (retV vs0) st'.σ st'.nx) : CallS P f args σ nx R := by
  obtain ⟨code, hb, hlc, hrl, hNt⟩ : ∃ code, fn.body = some code ∧ lowCode P N own code = some lc ∧ lowRs P fn.results.toList = some rl ∧ fn.ntmps = N := by
    unfold lowF at hlow
    split at hlow
    · cases hlow
    · rename_i c hc
      split at hlow
      · rename_i h1 h2
        cases hlow
        exact ⟨c, hc, h1, h2, rfl⟩
      · cases hlow
  refine ⟨hent, fun Γ w us hst hfr hrep => callsIn_wide.1 (callsIn_of_wp_marks (n := 0) hf hb trivial ?_)⟩
  let a0 : Act := { tmps := us ++ Array.replicate (fn.ntmps - us.size) undef, defers := [] }
  have hc0 : Conc N w.heap.size nx Γ w ⟨argEnv 0 args, σ, nx⟩ a0 :=
    ⟨by simp only [a0, Array.size_append, Array.size_replicate, hrep.1, hNt]; omega, fun t => repL_env hrep t, hst, hfr, Nat.le_refl _, ⟨[], rfl, ⟨List.nodup_nil, Nat.le_refl _⟩, fun D hD => by cases hD⟩⟩
  refine wpIn_mono (h none 0 w.heap.size own code (fun _ => rfl) hlc Γ Γ w w σ a0 hc0 (Ext.refl _ _ _ _)) (fun e a' w1 hp => ?_)
  obtain ⟨Γ1, st1, hc1, hext1, he, vs0, hres, hR⟩ := hp
  have hfin : LeavesInM Fence.wide 0 P fn a'.tmps (fun e w' => ∃ u v Γ' σ' nx', e = .returned u ∧ R v σ' nx' ∧ RepV Γ' w' v u ∧ StoreOk Γ' w' σ' ∧ Ext nx Γ w σ Γ' w' σ' ∧ (∀ id, nx' ≤ id → Γ'.ρ id = none) ∧ nx ≤ nx') a'.defers .returning w1 := by
    obtain ⟨Ds, hDs, hnd, hD⟩ := hc1.dfs
    rw [hDs]
    refine leave_marks Ds w1 hnd.1 (fun D hD' => (hD D hD').2.2.2) (fun w2 e1 e2 e3 e4 e5 => ?_)
    have hI : ∀ k, Γ1.I k → w2.heap[k]? = w1.heap[k]? := fun k hk => e5 k (fun hm => (hD k hm).2.1 hk)
    have hL : ∀ k, Live Γ1 st1.σ k → w2.heap[k]? = w1.heap[k]? := fun k hk => e5 k (fun hm => (hD k hm).2.2.1 hk)
    have hok2 : StoreOk Γ1 w2 st1.σ := hc1.ok.keep (CxLe.refl _) (fun k hk => by rw [e4]; exact hc1.ok.im k hk) hI hL (fun k hl hk => hc1.ok.not_live hk hl)
    have henv2 : ∀ t, RepV Γ1 w2 (lk st1.env t) (a'.tmps.getD t undef) := fun t => (hc1.env t).mono (CxLe.refl _) hI
    obtain ⟨us1, hrun, hul, hug⟩ := results_run (P := P) (fn := fn) henv2 hok2 hrl hres
    exact ⟨_, hrun, _, _, Γ1, st1.σ, st1.nx, rfl, hR, retV_rep hul hug, hok2,
      ⟨e1.trans hext1.os, e2.trans hext1.tape, e3.trans hext1.output, by rw [e4]; exact hext1.size, hext1.im, hext1.new, hext1.ρ, hext1.κ, fun k hk hn => (e5 k (fun hm => by have := (hD k hm).1; omega)).trans (hext1.keep k hk hn), hext1.live⟩, hc1.free, hc1.le⟩
  rcases he with rfl | rfl
  · exact hfin
  · exact hfin
def RR (P : Program) (N : Nat) (ps : List Nat) (la lb : LCode) (r : Loop) : Prop :=
  r.tmps.size = N ∧ r.params.toList = ps ∧ (∀ p ∈ ps, p < N) ∧ ∃ own, lowCode P N own r.assign = some la ∧ lowCode P N own r.body = some lb
theorem set_lp {Γ : Cx} {w : World} {σ : Store} {id b : Nat} {env : List (Nat × V)} {s s' : LoopState} {j j' : Option Code} {R : Loop → Prop} {r : Loop} (hok : StoreOk Γ w σ) (hg : get σ id = some (.lp env s j R)) (hb : Γ.ρ id = some b) (hh : w.heap[b]? = some (.loop r)) :
    StoreOk Γ (w.putObj b (.loop { r with state := s', pending := j' })) (set σ id (.lp env s' j' R)) ∧ ∀ base, Ext base Γ w σ Γ (w.putObj b (.loop { r with state := s', pending := j' })) (set σ id (.lp env s' j' R)) := by
  have hlt : b < w.heap.size := (Array.getElem?_eq_some_iff.1 hh).1
  obtain ⟨b', hb', hI, r', hr', h1, h2, h3, h4⟩ := hok.ok id _ hg
  rw [hb] at hb'; cases hb'
  rw [hh] at hr'; cases hr'
  have hle : LiveE Γ id (.lp env s j R) := trivial
  have hkeep : ∀ k, k ≠ b → (w.putObj b (.loop { r with state := s', pending := j' })).heap[k]? = w.heap[k]? := fun k hk => putObj_heap_other hk
  have hsame : Same Γ.I w (w.putObj b (.loop { r with state := s', pending := j' })) := fun k hk => hkeep k (fun e => hI (e ▸ hk))
  refine ⟨hok.modify hg hb hle (by simp [World.putObj]) (fun k _ hk => hkeep k hk) ⟨hI, _, World.putObj_heap_same hlt, rfl, rfl, h3, fun t => (h4 t).mono (CxLe.refl _) hsame⟩, fun base =>
    Ext.modify (liveId_iff.2 ⟨_, hg, hle⟩) hb rfl rfl rfl (by simp [World.putObj]) (fun k _ hk => hkeep k hk) (fun k hk => live_set hg hle hk)⟩
end
def bindE : List Nat → List V → List (Nat × V) → List (Nat × V)
  | p :: ps, v :: vs, env => bindE ps vs ((p, v) :: env)
  | _, _, env => env
section
variable {P : Program} {N base : Nat} {st : St} {K : St → Prop} {rest : List LIns} {i : LIns}
def roundQ (id : Nat) (R : Loop → Prop) (next : V → Store → Nat → Prop) : Exit → St → Prop
  | e, st2 => ∃ env2 s2 j2, get st2.σ id = some (.lp env2 s2 j2 R) ∧
    match e with
    | .normal => next (.c .tru) (set st2.σ id (.lp env2 .ready none R)) st2.nx
    | .ret => next (.c .fls) (set st2.σ id (.lp env2 .done (some .ret) R)) st2.nx
    | .exit k => next (.c .fls) (set st2.σ id (.lp env2 .done (some (.exit k)) R)) st2.nx
    | _ => False
theorem bindE_rep {Γ : Cx} {w : World} : ∀ (ps : List Nat) (vs : List V) (us : List Value) (env : List (Nat × V)) (tmps : Array Value), us.length = vs.length → (∀ (j : Nat) v u, vs[j]? = some v → us[j]? = some u → RepV Γ w v u) → (∀ p ∈ ps, p < tmps.size) → (∀ t, RepV Γ w (lk env t) (tmps.getD t undef)) →
    (∀ t, RepV Γ w (lk (bindE ps vs env) t) (((ps.zip us).foldl (fun tmps (t, a) => tmps.setIfInBounds t a) tmps).getD t undef)) ∧ ((ps.zip us).foldl (fun tmps (t, a) => tmps.setIfInBounds t a) tmps).size = tmps.size
  | [], vs, us, env, tmps, _, _, _, h => by simp [bindE]; exact fun t => by simpa using h t
  | p :: ps, [], us, env, tmps, hl, _, _, h => by
    cases us with
    | nil => simp [bindE]; exact fun t => by simpa using h t
    | cons u us => simp at hl
  | p :: ps, v :: vs, us, env, tmps, hl, hr, hp, h => by
    cases us with
    | nil => simp at hl
    | cons u us =>
      simp only [bindE, List.zip_cons_cons, List.foldl_cons]
      have := bindE_rep ps vs us ((p, v) :: env) (tmps.setIfInBounds p u) (by simpa using hl) (fun j v' u' hv hu => hr (j + 1) v' u' (by simpa using hv) (by simpa using hu)) (fun q hq => by simpa using hp q (by simp [hq])) (fun t => by
        rw [lk_cons]
        by_cases hpt : p = t
        · subst hpt
          rw [if_pos rfl, Array.getD_eq_getD_getElem?, Array.getElem?_setIfInBounds_self_of_lt (hp p (by simp))]
          exact hr 0 v u rfl rfl
        · rw [if_neg hpt, Array.getD_eq_getD_getElem?, Array.getElem?_setIfInBounds_ne hpt, ← Array.getD_eq_getD_getElem?]
          exact h t)
      exact ⟨this.1, by rw [this.2]; simp⟩
theorem Conc.lp {B0 : Nat} {Γ : Cx} {w : World} {a : Act} {id b : Nat} {env : List (Nat × V)} {s s' : LoopState} {j j' : Option Code} {R : Loop → Prop} {r : Loop} (hc : Conc N B0 base Γ w st a) (hg : get st.σ id = some (.lp env s j R)) (hb : Γ.ρ id = some b) (hh : w.heap[b]? = some (.loop r)) :
    Conc N B0 base Γ (w.putObj b (.loop { r with state := s', pending := j' })) ⟨st.env, set st.σ id (.lp env s' j' R), st.nx⟩ a := by
  obtain ⟨h1, h2⟩ := set_lp (s' := s') (j' := j') hc.ok hg hb hh
  have hs := (h2 base).same hc.ok
  refine ⟨hc.size, fun t => (hc.env t).mono (CxLe.refl _) hs, h1, hc.free, hc.le, ?_⟩
  obtain ⟨Ds, d1, d2, d3⟩ := hc.dfs
  refine ⟨Ds, d1, ⟨d2.1, Nat.le_trans d2.2 (h2 base).size⟩, fun D hD => ?_⟩
  obtain ⟨d4, d5, d6, d7⟩ := d3 D hD
  have hlt : D < w.heap.size := (Array.getElem?_eq_some_iff.1 d7).1
  refine ⟨d4, d5, fun hl => ?_, ((h2 base).keep D hlt d6).trans d7⟩
  rcases (h2 base).live D hl with h3 | h3
  · exact d6 h3
  · omega
theorem lp_rec {Γ : Cx} {w : World} {σ : Store} {id : Nat} {env : List (Nat × V)} {s : LoopState} {j : Option Code} {R : Loop → Prop} (hok : StoreOk Γ w σ) (hg : get σ id = some (.lp env s j R)) :
    ∃ b r, Γ.ρ id = some b ∧ w.heap[b]? = some (.loop r) ∧ r.state = s ∧ r.pending = j ∧ R { r with state := .ready, pending := none } ∧ ∀ t, RepV Γ w (lk env t) (r.tmps.getD t undef) := by
  obtain ⟨b, hb, _, r, h1, h2, h3, h4, h5⟩ := hok.ok id _ hg
  exact ⟨b, r, hb, h1, h2, h3, h4, h5⟩
theorem Ops.yield {id N' : Nat} {fop : Operand} {xs : List Operand} {env0 : List (Nat × V)} {ps : List Nat} {la lb : LCode} (hg : guardOf st.env i.guard = .run) (hop : i.op = .call fop xs) (hf : evo st.env fop = .c (.yd id))
    (hlp : get st.σ id = some (.lp env0 .ready none (RR P N' ps la lb))) (hlen : ps.length = xs.length) (hra : la.ranges = false) (hrb : lb.ranges = false)
    (h : Sat P N' st.nx la ⟨bindE ps (xs.map (evo st.env)) env0, st.σ, st.nx⟩ fun e st1 => e = .normal ∧ ∃ env1, get st1.σ id = some (.lp env1 .ready none (RR P N' ps la lb)) ∧
      Sat P N' st.nx lb ⟨st1.env, set st1.σ id (.lp env1 .busy none (RR P N' ps la lb)), st1.nx⟩ (roundQ id (RR P N' ps la lb) fun v σ' nx' => Ops P N base rest ⟨putE st.env i.dst v, σ', nx'⟩ K)) :
    Ops P N base (i :: rest) st K := by
  intro ro n B0 own opsA idx os hl hidx Γ0 Γ w0 w σ0' a hc hext
  obtain ⟨o, os', rfl, hi', hl'⟩ := lowList_cons hl
  match idx, hidx with
  | k :: idx, hidx =>
    simp only [List.map_cons, List.cons.injEq] at hidx
    obtain ⟨hk, hidx⟩ := hidx
    obtain ⟨⟨b0, hop'⟩, hdst, hdN, hgd⟩ := lowIns_some hi'
    obtain ⟨c, hoc, hcal, hxs⟩ := low_call (hop' ▸ hop : lowOp P b0 o = .call fop xs)
    have hfr' := hc.ev fop
    rw [hf] at hfr'
    obtain ⟨b, hb, hfu⟩ : ∃ b, Γ.ρ id = some b ∧ a.eval fop = .func (.yield b) #[] #[] := by
      generalize a.eval fop = u at hfr' ⊢
      cases hfr' with | c _ _ h => exact h
    obtain ⟨b', r, hb', hh, hs, hj, hR, henv⟩ := lp_rec hc.ok hlp
    rw [hb] at hb'; cases hb'
    obtain ⟨hRs, hRp, hRl, own', hRa, hRb⟩ := hR
    have hw : Region.wanted o (yielded opsA a.tmps) = true := (guardOf_run (i := i) (σ := st.σ) (nx := st.nx) hg).wanted hc hgd
    have e1 : c.args.size = xs.length := by rw [← hxs]; simp
    have hsz : (c.args.map a.eval).size = r.params.size := by
      have : r.params.toList.length = ps.length := by rw [← hRp]
      simp at this
      simp [e1, this, hlen]
    have hrun : (execOp a.eval o).run P w = .ok (.round b r.fn ((r.params.zip (c.args.map a.eval)).foldl (fun tmps (t, a) => tmps.setIfInBounds t a) r.tmps) r.assign r.body) w := by
      have h1 : (resolve a.eval c o.type).run P w = .ok { target := .fn (.yield b) #[], args := c.args.map a.eval } w := by
        unfold resolve
        simp only [hcal, hfu, Deferred.ofValue]
        simp
      unfold execOp
      simp only [hoc, Sem.run_bind, h1, Result.andThen_ok, invoke]
      exact run_yield hh hsz
    simp only [wpOpsIn, hk, hw, if_true, Oper.wpIn]
    refine ⟨fun _ _ => trivial, ?_⟩
    rw [Oper.semAt_eq _ _ o (fun c' h' => by rw [hoc] at h'; cases h'), hrun, Oper.uponIn_round]
    refine ⟨fun h => by simp [FW, Fence.wide] at h, roundIn_of_wpIn trivial ?_⟩
    -- the round's frame
    obtain ⟨hbr, hbs⟩ := bindE_rep (Γ := Γ) (w := w) ps (xs.map (evo st.env)) ((c.args.map a.eval).toList) env0 r.tmps (by simp [e1]) (fun j v u hv hu => by
      simp only [List.getElem?_map, Option.map_eq_some_iff] at hv
      obtain ⟨x, hx, rfl⟩ := hv
      have hx' : c.args[j]? = some x := by rw [← hxs] at hx; simpa using hx
      simp [hx'] at hu
      subst hu
      exact hc.ev x) (fun p hp => by rw [show r.tmps.size = N' from hRs]; exact hRl p hp) henv
    have hfold : (r.params.zip (c.args.map a.eval)).foldl (fun tmps (t, a) => tmps.setIfInBounds t a) r.tmps = (ps.zip (c.args.map a.eval).toList).foldl (fun tmps (t, a) => tmps.setIfInBounds t a) r.tmps := by
      rw [← Array.foldl_toList, Array.toList_zip]
      rw [show r.params.toList = ps from hRp]
    rw [hfold]
    have hc0 : Conc N' w.heap.size st.nx Γ w ⟨bindE ps (xs.map (evo st.env)) env0, st.σ, st.nx⟩ { tmps := (ps.zip (c.args.map a.eval).toList).foldl (fun tmps (t, a) => tmps.setIfInBounds t a) r.tmps, defers := [] } :=
      ⟨by rw [hbs]; exact hRs, hbr, hc.ok, hc.free, Nat.le_refl _, ⟨[], rfl, ⟨List.nodup_nil, Nat.le_refl _⟩, fun D hD => by cases hD⟩⟩
    refine wpIn_mono (h (some b) (n - 1) w.heap.size own' r.assign (fun hh => by rw [hra] at hh; cases hh) hRa Γ Γ w w st.σ _ hc0 (Ext.refl _ _ _ _)) (fun e a1 w1 hp => ?_)
    obtain ⟨Γ1, st1, hc1, hext1, rfl, env1, hlp1, hbody⟩ := hp
    obtain ⟨b1, r1, hb1, hh1, hs1, hj1, hR1, henv1⟩ := lp_rec hc1.ok hlp1
    have hbb : b1 = b := by
      have hidlt : id < st.nx := by
        rcases Nat.lt_or_ge id st.nx with h2 | h2
        · exact h2
        · rw [hc.free id h2] at hb; cases hb
      rw [hext1.ρ id hidlt, hb] at hb1; cases hb1; rfl
    subst hbb
    have hr1 : ({ r1 with state := .busy } : Loop) = { r1 with state := .busy, pending := none } := by rw [← hj1]
    have hbeg := run_beginRound (P := P) hh1 hs1
    rw [hr1] at hbeg
    have hc2 := hc1.lp (s' := .busy) (j' := none) hlp1 hb1 hh1
    have hext2 : Ext st.nx Γ w st.σ Γ1 _ _ := hext1.trans ((set_lp (s' := .busy) (j' := none) hc1.ok hlp1 hb1 hh1).2 st.nx)
    refine ⟨_, hbeg, wpIn_mono (hbody (some b1) (n - 1) w.heap.size own' r.body (fun hh => by rw [hrb] at hh; cases hh) hRb Γ Γ1 w _ st.σ a1 hc2 hext2) (fun e a2 w2 hp => ?_)⟩
    obtain ⟨Γ2, st2, hc3, hext3, env2, s2, j2, hlp2, hm⟩ := hp
    obtain ⟨b2, r2, hb2, hh2, hs2, hj2, hR2, henv2⟩ := lp_rec hc3.ok hlp2
    have hbb : b2 = b1 := by
      have hidlt : id < st.nx := by
        rcases Nat.lt_or_ge id st.nx with h2 | h2
        · exact h2
        · rw [hc.free id h2] at hb; cases hb
      rw [hext3.ρ id hidlt, hb] at hb2; cases hb2; rfl
    subst hbb
    have hgo : ∀ (jump : Option Code) (v : V) (u : Value), RepV Γ2 (w2.putObj b2 (.loop { r2 with state := if jump.isNone then .ready else .done, pending := jump })) v u → 
        Ops P N base rest ⟨putE st.env i.dst v, set st2.σ id (.lp env2 (if jump.isNone then .ready else .done) jump (RR P N' ps la lb)), st2.nx⟩ K →
        wpOpsIn (FW ro) n P opsA (Post N B0 base Γ0 w0 σ0' fun e st' => e = .normal ∧ K st') idx (a.put o.dst u) (w2.putObj b2 (.loop { r2 with state := if jump.isNone then .ready else .done, pending := jump })) := fun jump v u hv hk => by
      obtain ⟨hst4, hext4⟩ := set_lp (s' := if jump.isNone then .ready else .done) (j' := jump) hc3.ok hlp2 hb2 hh2
      have hext5 := hext3.trans (hext4 st.nx)
      have hc' := hc.putS (dst := o.dst) hdN hv hst4 hext5 hc3.free hc3.le
      exact hk ro n B0 own opsA idx os' hl' hidx Γ0 Γ2 w0 _ σ0' _ (by rw [hdst]; exact hc') (hext.trans (hext5.mono hc.le))
    cases e with
    | normal => exact ⟨_, _, run_endRound none hh2, hgo none (.c .tru) (.bool true) (.c _ _ rfl) hm⟩
    | ret => exact ⟨_, _, run_endRound (some .ret) hh2, hgo (some .ret) (.c .fls) (.bool false) (.c _ _ rfl) hm⟩
    | exit k => exact ⟨_, _, run_endRound (some (.exit k)) hh2, hgo (some (.exit k)) (.c .fls) (.bool false) (.c _ _ rfl) hm⟩
    | _ => exact hm.elim
end
abbrev Mix (P : Program) : Prop := Nonempty (PLift (P.follows .mixedOrders = true))
theorem Mix.h {P : Program} (m : Mix P) : P.follows .mixedOrders = true := m.elim fun x => x.down
section
variable {P : Program} {N base : Nat} {M ks : List Nat} {ops : List LIns} {st : St} {Q : Exit → St → Prop}
theorem VEq.bool {a b : Bool} (h : a = b) : VEq (vbl a) (vbl b) := by subst h; exact .refl _
theorem VEq.tru {b : Bool} (h : b = true) : VEq (.c .tru) (vbl b) := by subst h; exact .c _ _ .tru
theorem VEq.fls {b : Bool} (h : b = false) : VEq (.c .fls) (vbl b) := by subst h; exact .c _ _ .fls
theorem VEq.int {k : IntKind} {a b : Int} (h : a = b) : VEq (vi k a) (vi k b) := by subst h; exact .refl _
theorem VEq.sl {s n m : Nat} {f g : Nat → List D} (hn : n = m) (h : ∀ i, i < n → f i = g i) : VEq (.c (.d (.sl s n f))) (.c (.d (.sl s m g))) := by subst hn; exact .c _ _ (.d _ _ (.sl _ _ _ _ h))
end
def cloC : C → Prop
  | .d _ | .tru | .fls | .rp _ | .z | .fl _ | .cx _ _ | .cl _ _ _ | .fnR _ _ | .fnB _ _ | .er => True
  | .fn _ ids => ids = []
  | _ => False
def cloCs : List C → Prop
  | [] => True
  | c :: cs => cloC c ∧ cloCs cs
def clo : V → Prop
  | .c x => cloC x
  | .agg cs => cloCs cs
  | .unk => True
  | .tup _ => False
theorem cloC.ren {c : C} (h : cloC c) (π : Nat → Nat) (n : Nat) : rnC π c = c ∧ cLt n c := by
  cases c with
  | d | tru | fls | rp | z | fl | cx | cl | fnR | fnB | er => exact ⟨rfl, trivial⟩
  | fn f ids => cases (show ids = [] from h); exact ⟨rfl, fun i hi => by cases hi⟩
  | _ => exact h.elim
theorem cloCs.ren : ∀ {cs : List C}, cloCs cs → ∀ (π : Nat → Nat) (n : Nat), cs.map (rnC π) = cs ∧ csLt n cs
  | [], _, _, _ => ⟨rfl, trivial⟩
  | c :: cs, h, π, n => by
    obtain ⟨h1, h2⟩ := cloC.ren h.1 π n
    obtain ⟨h3, h4⟩ := cloCs.ren h.2 π n
    exact ⟨by simp [h1, h3], h2, h4⟩
theorem clo.ren {v : V} (h : clo v) (π : Nat → Nat) (n : Nat) : rnV π v = v ∧ vLt n v := by
  cases v with
  | c x => obtain ⟨h1, h2⟩ := cloC.ren h π n; exact ⟨by simp [rnV, h1], h2⟩
  | agg cs => obtain ⟨h1, h2⟩ := cloCs.ren h π n; exact ⟨by simp [rnV, h1], h2⟩
  | unk => exact ⟨rfl, trivial⟩
  | tup => exact h.elim
def cloL : List V → Prop
  | [] => True
  | v :: vs => clo v ∧ cloL vs
def VEqs : List V → List V → Prop
  | [], [] => True
  | x :: xs, y :: ys => VEq x y ∧ VEqs xs ys
  | _, _ => False
theorem VEqs.length : ∀ {xs ys : List V}, VEqs xs ys → xs.length = ys.length
  | [], [], _ => rfl
  | x :: xs, y :: ys, h => by simp [VEqs.length h.2]
  | [], _ :: _, h => h.elim
  | _ :: _, [], h => h.elim
def envIs (env : List (Nat × V)) : List (Nat × V) → Prop
  | [] => True
  | (t, v) :: e0 => (VEq (lk env t) v ∧ clo v) ∧ envIs env e0
theorem envIs.ok {env : List (Nat × V)} (π : Nat → Nat) (n : Nat) : ∀ {e0 : List (Nat × V)}, envIs env e0 → envOk n π env e0
  | [], _ => trivial
  | (t, v) :: e0, h => by
    obtain ⟨h1, h2⟩ := clo.ren h.1.2 π n
    exact ⟨⟨by rw [h1]; exact h.1.1, h2⟩, envIs.ok π n h.2⟩
theorem Wk.plain {base : Nat} {st : St} {env0 : List (Nat × V)} {nx0 : Nat} (hb : base ≤ nx0) (h : envIs st.env env0) : Wk base st ⟨env0, [], nx0⟩ id :=
  ⟨fun _ _ => rfl, fun _ _ _ _ h => h, hb, h.ok _ _, stoOk.nil⟩
theorem envIs_arg : ∀ {xs ys : List V} (k : Nat) (env : List (Nat × V)), VEqs xs ys → cloL ys → (∀ i x, xs[i]? = some x → lk env (k + i) = x) → envIs env (argEnv k ys)
  | [], [], _, _, _, _, _ => trivial
  | x :: xs, y :: ys, k, env, h, hc, he => by
    refine ⟨⟨?_, hc.1⟩, envIs_arg (k + 1) env h.2 hc.2 fun i z hz => ?_⟩
    · rw [show lk env k = x from he 0 x rfl]; exact h.1
    · rw [Nat.add_right_comm]; exact he (i + 1) z (by simpa using hz)
  | [], _ :: _, _, _, h, _, _ => h.elim
  | _ :: _, [], _, _, h, _, _ => h.elim
theorem VEqs.refl : ∀ (xs : List V), VEqs xs xs
  | [] => trivial
  | x :: xs => ⟨.refl x, VEqs.refl xs⟩
theorem lk_argEnv0 {vs : List V} {i : Nat} {x : V} (h : vs[i]? = some x) : lk (argEnv 0 vs) (0 + i) = x := by
  rw [lk_argEnv]; simp [h]
theorem RetQ.plain {nx nx' : Nat} {rl : List RL} {vs vs0 : List V} {e : Exit} {st : St} (hle : nx ≤ nx') (he : e = .normal ∨ e = .ret) (hres : resAll st.env st.σ rl = some vs0) (hc : cloL vs) (hv : VEqs vs0 vs) : RetQ nx rl vs [] nx' e st :=
  ⟨he, vs0, hres, hv.length, Mv.weaken (Wk.plain hle (envIs_arg 0 _ hv hc fun _ _ h => lk_argEnv0 h))⟩
theorem PFD.enter {P : Program} {N : Nat} {own : List Nat} {f : FuncId} {fn : Func} {lc : LCode} {rl : List RL} {args : List V} (vs : List V) (hf : P.funcs[f]? = some fn) (hent : Ent1 P f) (hlow : lowF P own fn = some (N, lc, rl)) (hN : args.length ≤ N)
    (hc : cloL args) (h : Sat P N 0 lc ⟨argEnv 0 args, [], 0⟩ (RetQ 0 rl vs [] 0)) : PFD P f args (retV vs) :=
  ⟨CallD.enter hf hent hlow hN (Nat.le_refl _) (Wk.plain (Nat.le_refl _) (envIs_arg 0 _ (VEqs.refl _) hc fun _ _ h => lk_argEnv0 h)) h⟩
def loop0Q {ι : Type} (inv : ι → List (Nat × V)) (pre : ι → Prop) (μ : ι → Nat) (i : ι) (Q : Exit → St → Prop) : Exit → St → Prop
  | .normal, st' => ∃ j, pre j ∧ μ j < μ i ∧ envIs st'.env (inv j)
  | e, st' => Q e st'
theorem Sat.loop0 {P : Program} {N base : Nat} {x : LCode} {st : St} {Q : Exit → St → Prop} {ι : Type} (inv : ι → List (Nat × V)) (pre : ι → Prop) (μ : ι → Nat) (i0 : ι) (h0 : pre i0) (hw : envIs st.env (inv i0))
    (round : ∀ i, pre i → Sat P N base x ⟨inv i, [], base⟩ (loop0Q inv pre μ i Q)) : Sat P N base (.loop x) st Q := by
  refine Sat.loop (fun i => ⟨inv i, [], base⟩) pre μ i0 id h0 (Wk.plain (Nat.le_refl _) hw) fun i hi => (round i hi).mono fun e st' h => ?_
  cases e with
  | normal =>
    obtain ⟨j, h1, h2, h3⟩ := h
    exact ⟨j, id, h1, h2, Wk.plain (Nat.le_refl _) h3⟩
  | _ => exact h
def dd : List (Nat × V) → List Nat → List (Nat × V)
  | [], _ => []
  | (t, v) :: e, seen => match memN t seen with
    | true => dd e seen
    | false => match v with
      | .unk => dd e (t :: seen)
      | v => (t, v) :: dd e (t :: seen)
theorem lk_dd : ∀ (e : List (Nat × V)) (seen : List Nat) (t : Nat), t ∉ seen → lk (dd e seen) t = lk e t
  | [], _, _, _ => rfl
  | (a, v) :: e, seen, t, h => by
    simp only [dd]
    split
    · rename_i hm
      have : a ≠ t := fun hh => h (hh ▸ memN_iff.1 hm)
      rw [lk_cons, if_neg this]; exact lk_dd e seen t h
    · split
      · rw [lk_cons]
        split
        · rename_i hat
          subst hat
          have : ∀ (e : List (Nat × V)) (seen : List Nat), a ∈ seen → lk (dd e seen) a = .unk := by
            intro e
            induction e with
            | nil => intro _ _; rfl
            | cons p e ih =>
              obtain ⟨b, x⟩ := p
              intro seen hs
              simp only [dd]
              split
              · exact ih _ hs
              · rename_i hm
                have hb : b ≠ a := fun hh => by rw [hh, memN_iff.2 hs] at hm; cases hm
                split
                · exact ih _ (by simp [hs])
                · rw [lk_cons, if_neg hb]; exact ih _ (by simp [hs])
          exact this e _ (by simp)
        · rename_i hat; exact lk_dd e _ t (by simp [h, Ne.symm hat])
      · rw [lk_cons, lk_cons]
        split
        · rfl
        · rename_i hat; exact lk_dd e _ t (by simp [h, Ne.symm hat])
theorem Sat.dd {P : Program} {N base : Nat} {x : LCode} {env : List (Nat × V)} {σ : Store} {nx : Nat} {Q : Exit → St → Prop} (h : Sat P N base x ⟨dd env [], σ, nx⟩ Q) : Sat P N base x ⟨env, σ, nx⟩ Q := by
  intro ro n B0 own code hro hl Γ0 Γ w0 w σ0 a hc hext
  exact h ro n B0 own code hro hl Γ0 Γ w0 w σ0 a (hc.same (fun t => by rw [lk_dd _ _ _ (by simp)]; exact RI.refl _) (fun _ => rfl)) hext
end Go.Pw
