/- Steps toward the row of this claim: part 3 of 6. Proved as named below, on no condition but those that each theorem states. -/
import Derived.Test.YtnimcgmgnmlfgaaGreatDiveBoundedB
import Derived.ProofKit
import Derived.Deep.Slices
import Derived.Test.YtnimcgmgnmlfgaaGreatProg
set_option linter.unusedVariables false
namespace Go.Pw
open Go Go.RowKit
section
variable {P : Program} {N base : Nat} {st : St} {Q : Exit → St → Prop}
theorem low_rangeFunc {own : List Nat} {code : Code} {f : Operand} {ps : List Nat} {la lb : LCode} (h : lowCode P N own code = some (.rangeFunc f ps la lb)) :
    ∃ qs a c, code = .rangeFunc f qs a c ∧ qs.toList = ps ∧ lowCode P N own a = some la ∧ lowCode P N own c = some lb := by
  cases code with
  | rangeFunc g qs a c =>
    simp only [lowCode, Option.bind_eq_bind, Option.bind_eq_some_iff, Option.some.injEq] at h
    obtain ⟨x, hx, y, hy, h⟩ := h
    cases h
    exact ⟨qs, a, c, rfl, rfl, hx, hy⟩
  | region id ops draw =>
    simp only [lowCode, Option.bind_eq_bind, Option.bind_eq_some_iff] at h
    obtain ⟨l, hl, h⟩ := h
    split at h
    · split at h <;> simp at h
    · simp at h
  | _ => simp [lowCode, Option.bind_eq_some_iff] at h
/-- A new block that is nobody's. -/
theorem alloc_mark {base : Nat} {Γ : Cx} {w : World} {σ : Store} (h : StoreOk Γ w σ) (o : Obj) : StoreOk Γ (w.alloc o) σ ∧ Ext base Γ w σ Γ (w.alloc o) σ :=
  ⟨h.keep (CxLe.refl _) (fun k hI => by have := h.im k hI; simp; omega) (alloc_same h o) (fun k hl => heap_alloc (h.live_lt hl)) (fun k hl hI => h.not_live hI hl),
    Ext.grow (Γ := Γ) (Γ' := Γ) (w := w) (w' := w.alloc o) (fun _ _ => rfl) (fun _ _ => rfl) (fun _ h => h) (fun k h => .inl h) rfl rfl rfl (by simp) (fun k hk _ => heap_alloc hk) _ (fun k hk => .inl hk)⟩
/-- How a range over a function ends. -/
def rangeQ (id : Nat) (env : List (Nat × V)) (Q : Exit → St → Prop) (σ' : Store) (nx' : Nat) : Prop :=
  match get σ' id with
  | some (.lp _ .ready none _) => Q .normal ⟨env, del σ' id, nx'⟩
  | some (.lp _ .done (some .ret) _) => Q .ret ⟨env, del σ' id, nx'⟩
  | some (.lp _ .done (some (.exit k)) _) => Q (.exit k) ⟨env, del σ' id, nx'⟩
  | _ => False
theorem rangeQ_iff {id : Nat} {env : List (Nat × V)} {σ' : Store} {nx' : Nat} (h : rangeQ id env Q σ' nx') :
    ∃ env' s j R, get σ' id = some (.lp env' s j R) ∧ s ≠ .busy ∧ ((j = none ∧ Q .normal ⟨env, del σ' id, nx'⟩) ∨ (j = some .ret ∧ Q .ret ⟨env, del σ' id, nx'⟩) ∨ ∃ k, j = some (.exit k) ∧ Q (.exit k) ⟨env, del σ' id, nx'⟩) := by
  unfold rangeQ at h
  split at h
  · rename_i e R hg; exact ⟨_, _, _, _, hg, by simp, .inl ⟨rfl, h⟩⟩
  · rename_i e R hg; exact ⟨_, _, _, _, hg, by simp, .inr (.inl ⟨rfl, h⟩)⟩
  · rename_i e k R hg; exact ⟨_, _, _, _, hg, by simp, .inr (.inr ⟨_, rfl, h⟩)⟩
  · exact h.elim
theorem Sat.rangeFunc {f : Operand} {ps : List Nat} {la lb : LCode} {fid : FuncId} {ids : List Nat} (hf : evo st.env f = .c (.fn fid ids)) (hps : ps.all (fun p => decide (p < N)) = true)
    (h : CallS P fid (.c (.yd st.nx) :: ids.map fun k => .c (.bp k 0)) ((st.nx, .lp st.env .ready none (RR P N ps la lb)) :: st.σ) (st.nx + 1) fun _ σ' nx' => rangeQ st.nx st.env Q σ' nx') :
    Sat P N base (.rangeFunc f ps la lb) st Q := by
  intro ro n B0 own code hro hl Γ0 Γ w0 w σ0 a hc hext
  obtain ⟨qs, ca, cb, rfl, hqs, hla, hlb⟩ := low_rangeFunc hl
  have hro' := hro rfl
  subst hro'
  have hfr := hc.ev f
  rw [hf] at hfr
  obtain ⟨bs, hbl, hbs, hfu⟩ : ∃ bs : List Nat, bs.length = ids.length ∧ (∀ (j i : Nat), ids[j]? = some i → ∃ b, Γ.ρ i = some b ∧ bs[j]? = some b) ∧ a.eval f = .func (.func fid) #[] (bs.map fun b => ptr b 0).toArray := by
    generalize a.eval f = u at hfr ⊢
    cases hfr with | c _ _ h => exact h
  refine wpIn_rangeFunc (fun fn _ => ?_)
  let wa := w.alloc (.deferred (some []))
  have hsza : wa.heap.size = w.heap.size + 1 := by simp [wa]
  let r0 : Loop := { state := .ready, pending := none, fn, tmps := a.tmps, params := qs, assign := ca, body := cb, defers := w.heap.size }
  let w1 := wa.alloc (.loop r0)
  obtain ⟨hsta, hexta⟩ := alloc_mark (base := st.nx) hc.ok (.deferred (some []))
  have hid := hc.free st.nx (Nat.le_refl _)
  have hRR : RR P N ps la lb { r0 with state := .ready, pending := none } :=
    ⟨hc.size, hqs, fun p hp => by simpa using List.all_eq_true.1 hps p hp, own, hla, hlb⟩
  have hent : EntOk (Γ.upd st.nx wa.heap.size none) (wa.alloc (.loop r0)) st.nx wa.heap.size (.lp st.env .ready none (RR P N ps la lb)) := by
    refine ⟨fun hI => ?_, r0, heap_alloc_new' _ _, rfl, rfl, hRR, fun t => ?_⟩
    · have := hc.ok.im _ hI; omega
    · exact (hc.env t).mono (CxLe.upd _ _ _ hid) (fun k hk => by
        have := hc.ok.im k hk
        rw [heap_alloc (by omega), show wa.heap[k]? = w.heap[k]? from heap_alloc this])
  obtain ⟨hst1, hext1⟩ := alloc_ent (base := st.nx) hsta hid (Nat.le_refl _) (.loop r0) none _ hent
  have hrep : RepL (Γ.upd st.nx wa.heap.size none) w1 (.c (.yd st.nx) :: ids.map fun k => .c (.bp k 0)) (#[Value.func (.yield (w.heap.size + 1)) #[] #[]] ++ (bs.map fun b => ptr b 0).toArray) := by
    refine ⟨by simp [hbl], fun j v u hv hu => ?_⟩
    cases j with
    | zero =>
      simp at hv hu
      subst hv; subst hu
      exact .c _ _ ⟨wa.heap.size, upd_ρ_same, by rw [hsza]⟩
    | succ j =>
      simp only [List.getElem?_cons_succ, List.getElem?_map, Option.map_eq_some_iff] at hv
      obtain ⟨k, hk, rfl⟩ := hv
      obtain ⟨b, hb, hb'⟩ := hbs j k hk
      rw [Array.getElem?_append_right (by simp)] at hu
      simp [hb'] at hu
      subst hu
      refine .c _ _ ⟨b, ?_, rfl⟩
      rw [upd_ρ (fun e => by rw [e] at hb; rw [hid] at hb; cases hb)]; exact hb
  have hfree1 : ∀ id, st.nx + 1 ≤ id → (Γ.upd st.nx wa.heap.size none).ρ id = none := fun id h => by
    rw [upd_ρ (by omega)]; exact hc.free id (by omega)
  have hres : (resolve a.eval (rangeCall f (w.heap.size + 1)) 0).run P w1 = .ok { target := .fn (.func fid) (bs.map fun b => ptr b 0).toArray, args := #[.func (.yield (w.heap.size + 1)) #[] #[]] } w1 := by
    unfold resolve
    simp only [hfu, Deferred.ofValue]
    simp [Act.eval]
  have he : (Instr.enterLoop fn a.tmps qs ca cb (FW none).round).run P w = .ok (w.heap.size + 1, [mkD w.heap.size]) w1 := run_enterLoop_outer fn a.tmps qs ca cb
  have hinv : (invoke (Target.fn (.func fid) (bs.map fun b => ptr b 0).toArray) #[.func (.yield (w.heap.size + 1)) #[] #[]]).run P w1 = .ok (.enter fid (#[.func (.yield (w.heap.size + 1)) #[] #[]] ++ (bs.map fun b => ptr b 0).toArray)) w1 := h.1 _ _
  have hcall := h.2 _ w1 _ hst1 hfree1 hrep
  have hpost : ∀ e w', (∃ u v Γ' σ' nx', e = .returned u ∧ rangeQ st.nx st.env Q σ' nx' ∧ RepV Γ' w' v u ∧ StoreOk Γ' w' σ' ∧ Ext (st.nx + 1) (Γ.upd st.nx wa.heap.size none) w1 ((st.nx, .lp st.env .ready none (RR P N ps la lb)) :: st.σ) Γ' w' σ' ∧ (∀ id, nx' ≤ id → Γ'.ρ id = none) ∧ st.nx + 1 ≤ nx') →
      rangePost (FW none) n P (w.heap.size + 1) (Post N B0 base Γ0 w0 σ0 Q) { a with defers := [mkD w.heap.size] ++ a.defers } e w' := by
    rintro e w' ⟨u, v, Γ', σ', nx', rfl, hR, hv, hst', hext', hfree', hle'⟩
    obtain ⟨env', s, j, R, hlp, hsb, hj⟩ := rangeQ_iff hR
    obtain ⟨b, r, hb, hh, hs, hjr, _, _⟩ := lp_rec hst' hlp
    have hb1 : b = w.heap.size + 1 := by
      rw [hext'.ρ st.nx (Nat.lt_succ_self _), upd_ρ_same] at hb
      cases hb; rw [hsza]
    subst hb1
    have hend := run_endLoop (P := P) hh (by rw [hs]; exact hsb)
    let w4 := w'.putObj (w.heap.size + 1) (.loop { r with state := .exhausted })
    obtain ⟨hst4, hext4⟩ := set_lp (s' := .exhausted) (j' := r.pending) hst' hlp hb hh
    have hsub : Sub (del σ' st.nx) (set σ' st.nx (.lp env' .exhausted r.pending R)) := fun id x hx => by
      by_cases he : id = st.nx
      · subst he; rw [get_del_same] at hx; cases hx
      · rw [get_del_other he] at hx; rw [get_set_other he]; exact hx
    have hst5 : StoreOk Γ' w4 (del σ' st.nx) := hst4.sub hsub
    have hE : Ext st.nx Γ wa st.σ Γ' w4 (del σ' st.nx) := by
      have h1 := (hext1.trans (hext'.mono (Nat.le_succ _))).trans (hext4 st.nx)
      exact ⟨h1.os, h1.tape, h1.output, h1.size, h1.im, h1.new, h1.ρ, h1.κ, h1.keep, fun k hk => h1.live k (live_sub hsub hk)⟩
    have hEw : Ext st.nx Γ w st.σ Γ' w4 (del σ' st.nx) := hexta.trans hE
    have hle : CxLe Γ Γ' := ext_cxle hEw hc.free
    have hsame := hEw.same hc.ok
    have hconc : Conc N B0 base Γ' w4 ⟨st.env, del σ' st.nx, nx'⟩ { a with defers := [mkD w.heap.size] ++ a.defers } := by
      refine ⟨hc.size, fun t => (hc.env t).mono hle hsame, hst5, hfree', by have := hc.le; show base ≤ nx'; omega, ?_⟩
      obtain ⟨Ds, d1, d2, d3⟩ := hc.dfs
      have hnl : ¬ Live Γ st.σ w.heap.size := fun hl => Nat.lt_irrefl _ (hc.ok.live_lt hl)
      refine ⟨w.heap.size :: Ds, by simp [d1], ⟨List.nodup_cons.2 ⟨fun hm => ?_, d2.1⟩, Nat.le_trans d2.2 hEw.size⟩, fun D hD => ?_⟩
      · have := (Array.getElem?_eq_some_iff.1 (d3 _ hm).2.2.2).1; omega
      · rcases List.mem_cons.1 hD with rfl | hD
        · refine ⟨d2.2, fun hi => ?_, fun hlv => ?_, ?_⟩
          · rcases hE.new _ hi with h1 | h1 | h1
            · exact Nat.lt_irrefl _ (hc.ok.im _ h1)
            · omega
            · exact hnl h1
          · rcases hE.live _ hlv with h1 | h1
            · exact hnl h1
            · omega
          · rw [hE.keep _ (by omega) hnl]; exact heap_alloc_new' _ _
        · obtain ⟨d4, d5, d6, d7⟩ := d3 D hD
          have hlt : D < w.heap.size := (Array.getElem?_eq_some_iff.1 d7).1
          refine ⟨d4, fun hi => ?_, fun hlv => ?_, (hEw.keep D hlt d6).trans d7⟩
          · rcases hEw.new D hi with h1 | h1 | h1
            · exact d5 h1
            · omega
            · exact d6 h1
          · rcases hEw.live D hlv with h1 | h1
            · exact d6 h1
            · omega
    have hEx : Ext base Γ0 w0 σ0 Γ' w4 (del σ' st.nx) := hext.trans (hEw.mono hc.le)
    refine ⟨r.pending, w4, hend, ?_⟩
    rcases hj with ⟨rfl, hq⟩ | ⟨rfl, hq⟩ | ⟨k, rfl, hq⟩
    · rw [hjr]; exact ⟨Γ', _, hconc, hEx, hq⟩
    · rw [hjr]; exact wpIn_ret ⟨Γ', _, hconc, hEx, hq⟩
    · rw [hjr]; exact wpIn_exit ⟨Γ', _, hconc, hEx, hq⟩
  exact ⟨w.heap.size + 1, [mkD w.heap.size], w1, _, w1, fid, _, w1, he, hres, fun _ _ => trivial, hinv, fun h => by simp [FW, Fence.wide] at h, Calls.fw (hcall.mono hpost)⟩
end
end Go.Pw

set_option linter.unusedVariables false
set_option linter.unusedSectionVars false
namespace Go.Pw
open Go Go.RowKit
/-- A function's lowered code. -/
structure FnOk (P : Program) (f : FuncId) (N : Nat) (lc : LCode) (rl : List RL) : Prop where
  ent : Ent1 P f
  ok : ∃ own fn, P.funcs[f]? = some fn ∧ lowF P own fn = some (N, lc.strip, rl)
section
variable {P : Program} [m : Mix P] {N base : Nat}
theorem Sat.of {x : LCode} {st : St} {Q : Exit → St → Prop} (h : wp P N base x st Q) : Sat P N base x.strip st Q := wp_spec x st Q h
theorem SatL.go {x : LCode} {st : St} {Q : Exit → St → Prop} (h : wp P N base x st Q) : SatL P N base x st Q := ⟨wp_spec x st Q h⟩
theorem PFD.of {f : FuncId} {lc : LCode} {rl : List RL} {args vs : List V} (hf : FnOk P f N lc rl) (hN : Nat.ble args.length N = true) (hc : cloL args)
    (h : wp P N 0 lc ⟨argEnv 0 args, [], 0⟩ (RetQ 0 rl vs [] 0)) : PFD P f args (retV vs) := by
  obtain ⟨hent, own, fn, h1, h2⟩ := hf
  exact PFD.enter vs h1 hent h2 (Nat.le_of_ble_eq_true hN) hc (Sat.of h)
def normC : C → C
  | .tru => .d (.v (.bool true))
  | .fls => .d (.v (.bool false))
  | c => c
def normA : V → V
  | .c x => .c (normC x)
  | .agg cs => .agg (cs.map normC)
  | v => v
theorem normC_eq (c : C) : CEq c (normC c) := by cases c <;> first | exact .tru | exact .fls | exact .refl _
theorem normA_eq (v : V) : VEq v (normA v) := by
  cases v with
  | c x => exact .c _ _ (normC_eq x)
  | agg cs =>
    refine .agg _ _ (by simp) (fun i x y hx hy => ?_)
    simp only [List.getElem?_map, hx, Option.map_some, Option.some.injEq] at hy
    subst hy
    exact normC_eq x
  | _ => exact .refl _
theorem ris_norm : ∀ (xs : List V), RIs xs (xs.map normA)
  | [] => .nil
  | x :: xs => .cons (normA_eq x).ri (ris_norm xs)
theorem VEqs.ris : ∀ {xs ys : List V}, VEqs xs ys → RIs xs ys
  | [], [], _ => .nil
  | x :: xs, y :: ys, h => .cons h.1.ri (VEqs.ris h.2)
  | [], _ :: _, h => h.elim
  | _ :: _, [], h => h.elim
/-- Forms of the arguments: as they are (bools known or not). -/
structure Fits (env : List (Nat × V)) (xs : List Operand) (args : List V) : Prop where
  h : RIs (xs.map (evo env)) args
theorem Fits.eq {env : List (Nat × V)} {xs : List Operand} {args : List V} (h : (xs.map (evo env)).map normA = args) : Fits env xs args := ⟨h ▸ ris_norm _⟩
theorem Fits.veq {env : List (Nat × V)} {xs : List Operand} {args : List V} (h : VEqs (xs.map (evo env)) args) : Fits env xs args := ⟨h.ris⟩
theorem Ops.pc {dst : Option Nat} {fop : Operand} {xs : List Operand} {g : Option (Nat × Bool)} {rest : List LIns} {env : List (Nat × V)} {σ : Store} {nx : Nat} {K : St → Prop} {f : FuncId} {args : List V} {v : V} (hf : evo env fop = .c (.fn f [])) (ha : Fits env xs args) (hc : PFD P f args v)
    (hg : guardOf env g = .run) (h : putK dst v env fun env' => wpOps P N base rest env' σ nx none K) : OpsL P N base (⟨dst, .call fop xs, g⟩ :: rest) ⟨env, σ, nx⟩ K := by
  rw [putK_eq] at h
  exact ⟨Ops.pcall (i := ⟨dst, .call fop xs, g⟩) (st := ⟨env, σ, nx⟩) hg rfl hf ha.h hc (Ops.wp h)⟩
theorem OpsD.pc {M : List Nat} {acc : List (Bool × List Nat)} {dst : Option Nat} {fop : Operand} {xs : List Operand} {g : Option (Nat × Bool)} {rest : List LIns} {env : List (Nat × V)} {σ : Store} {nx : Nat} {K : St → Prop} {f : FuncId} {args : List V} {v : V} (hf : evo env fop = .c (.fn f [])) (ha : Fits env xs args) (hc : PFD P f args v)
    (hg : guardOf env g = .run) (h : putK dst v env fun env' => wpD P N base M rest env' σ nx none ((false, []) :: acc) K) : OpsDL P N base M (⟨dst, .call fop xs, g⟩ :: rest) ⟨env, σ, nx⟩ acc K := by
  rw [putK_eq] at h
  exact ⟨OpsD.pcall (k := 0) (ks := []) (i := ⟨dst, .call fop xs, g⟩) (st := ⟨env, σ, nx⟩) hg rfl hf ha.h hc (OpsD.wp h)⟩
theorem Ops.pcR {dst : Option Nat} {fop : Operand} {xs : List Operand} {g : Option (Nat × Bool)} {rest : List LIns} {env : List (Nat × V)} {σ : Store} {nx : Nat} {K : St → Prop} {f : FuncId} {rows : List (List D)} {args : List V} {v : V} (hf : evo env fop = .c (.fnR f rows)) (ha : RIs (xs.map (evo env) ++ rows.map fun r => .c (.rp r)) args) (hc : PFD P f args v)
    (hg : guardOf env g = .run) (h : putK dst v env fun env' => wpOps P N base rest env' σ nx none K) : OpsL P N base (⟨dst, .call fop xs, g⟩ :: rest) ⟨env, σ, nx⟩ K := by
  rw [putK_eq] at h
  exact ⟨Ops.pcallR (i := ⟨dst, .call fop xs, g⟩) (st := ⟨env, σ, nx⟩) hg rfl hf ha hc (Ops.wp h)⟩
theorem Ops.pcB {dst : Option Nat} {fop : Operand} {xs : List Operand} {g : Option (Nat × Bool)} {rest : List LIns} {env : List (Nat × V)} {σ : Store} {nx : Nat} {K : St → Prop} {f : FuncId} {ds : List D} {args : List V} {v : V} (hf : evo env fop = .c (.fnB f ds)) (ha : RIs (.agg (ds.map .d) :: xs.map (evo env)) args) (hc : PFD P f args v)
    (hg : guardOf env g = .run) (h : putK dst v env fun env' => wpOps P N base rest env' σ nx none K) : OpsL P N base (⟨dst, .call fop xs, g⟩ :: rest) ⟨env, σ, nx⟩ K := by
  rw [putK_eq] at h
  exact ⟨Ops.pcallB (i := ⟨dst, .call fop xs, g⟩) (st := ⟨env, σ, nx⟩) hg rfl hf ha hc (Ops.wp h)⟩
theorem OpsD.pcR {M : List Nat} {acc : List (Bool × List Nat)} {dst : Option Nat} {fop : Operand} {xs : List Operand} {g : Option (Nat × Bool)} {rest : List LIns} {env : List (Nat × V)} {σ : Store} {nx : Nat} {K : St → Prop} {f : FuncId} {rows : List (List D)} {args : List V} {v : V} (hf : evo env fop = .c (.fnR f rows)) (ha : RIs (xs.map (evo env) ++ rows.map fun r => .c (.rp r)) args) (hc : PFD P f args v)
    (hg : guardOf env g = .run) (h : putK dst v env fun env' => wpD P N base M rest env' σ nx none ((false, []) :: acc) K) : OpsDL P N base M (⟨dst, .call fop xs, g⟩ :: rest) ⟨env, σ, nx⟩ acc K := by
  rw [putK_eq] at h
  exact ⟨OpsD.pcallR (k := 0) (ks := []) (i := ⟨dst, .call fop xs, g⟩) (st := ⟨env, σ, nx⟩) hg rfl hf ha hc (OpsD.wp h)⟩
theorem OpsD.pcB {M : List Nat} {acc : List (Bool × List Nat)} {dst : Option Nat} {fop : Operand} {xs : List Operand} {g : Option (Nat × Bool)} {rest : List LIns} {env : List (Nat × V)} {σ : Store} {nx : Nat} {K : St → Prop} {f : FuncId} {ds : List D} {args : List V} {v : V} (hf : evo env fop = .c (.fnB f ds)) (ha : RIs (.agg (ds.map .d) :: xs.map (evo env)) args) (hc : PFD P f args v)
    (hg : guardOf env g = .run) (h : putK dst v env fun env' => wpD P N base M rest env' σ nx none ((false, []) :: acc) K) : OpsDL P N base M (⟨dst, .call fop xs, g⟩ :: rest) ⟨env, σ, nx⟩ acc K := by
  rw [putK_eq] at h
  exact ⟨OpsD.pcallB (k := 0) (ks := []) (i := ⟨dst, .call fop xs, g⟩) (st := ⟨env, σ, nx⟩) hg rfl hf ha hc (OpsD.wp h)⟩
theorem OpsL.same {ops : List LIns} {st : St} {K : St → Prop} (h : OpsL P N base ops st K) : OpsL P N base ops st K := h
theorem OpsDL.same {M : List Nat} {ops : List LIns} {st : St} {acc : List (Bool × List Nat)} {K : St → Prop} (h : OpsDL P N base M ops st acc K) : OpsDL P N base M ops st acc K := h
theorem Fork.same {b : Bool} {p q : Prop} (h : Fork b p q) : Fork b p q := h
/-- A value, forced. -/
def frV (v : V) (k : V → Prop) : Prop :=
  match v with
  | .c x => k (.c x)
  | .agg cs => k (.agg cs)
  | .tup vs => k (.tup vs)
  | .unk => k .unk
theorem frV_eq (v : V) (k : V → Prop) : frV v k = k v := by cases v <;> rfl
def argK : Nat → List V → (List (Nat × V) → Prop) → Prop
  | _, [], k => k []
  | n, v :: vs, k => frV v fun v => frNat (n + 1) fun n' => argK n' vs fun e => k ((n, v) :: e)
theorem argK_eq : ∀ (vs : List V) (n : Nat) (k : List (Nat × V) → Prop), argK n vs k = k (argEnv n vs)
  | [], n, k => rfl
  | v :: vs, n, k => by simp only [argK, frV_eq, frNat_eq, argK_eq vs, argEnv]
def callQ (rl : List RL) (R : V → Store → Nat → Prop) : Exit → St → Prop
  | .normal, st => match resAll st.env st.σ rl with
    | some vs => R (retV vs) st.σ st.nx
    | none => False
  | .ret, st => match resAll st.env st.σ rl with
    | some vs => R (retV vs) st.σ st.nx
    | none => False
  | _, _ => False
theorem CallS.of {f : FuncId} {lc : LCode} {rl : List RL} {args : List V} {σ : Store} {nx : Nat} {R : V → Store → Nat → Prop} (hf : FnOk P f N lc rl) (hN : Nat.ble args.length N = true)
    (h : argK 0 args fun env => wp P N nx lc ⟨env, σ, nx⟩ (callQ rl R)) : CallS P f args σ nx R := by
  rw [argK_eq] at h
  obtain ⟨hent, own, fn, h1, h2⟩ := hf
  refine CallS.enter h1 hent h2 (Nat.le_of_ble_eq_true hN) ((Sat.of h).mono fun e st h => ?_)
  unfold callQ at h
  split at h
  · split at h
    · rename_i vs hv; exact ⟨.inl rfl, vs, hv, h⟩
    · exact h.elim
  · split at h
    · rename_i vs hv; exact ⟨.inr rfl, vs, hv, h⟩
    · exact h.elim
  · exact h.elim
theorem Ops.cs {dst : Option Nat} {fop : Operand} {xs : List Operand} {g : Option (Nat × Bool)} {rest : List LIns} {env : List (Nat × V)} {σ : Store} {nx : Nat} {K : St → Prop} {f : FuncId} {ids : List Nat} (hf : evo env fop = .c (.fn f ids)) (hg : guardOf env g = .run)
    (h : CallS P f (xs.map (evo env) ++ ids.map fun k => .c (.bp k 0)) σ nx fun v σ' nx' => frV v fun v => frNat nx' fun nx' => putK dst v env fun env' => wpOps P N base rest env' σ' nx' none K) : OpsL P N base (⟨dst, .call fop xs, g⟩ :: rest) ⟨env, σ, nx⟩ K := by
  refine ⟨?_⟩
  refine Ops.callS (i := ⟨dst, .call fop xs, g⟩) (st := ⟨env, σ, nx⟩) hg rfl hf ?_
  simp only [frV_eq, frNat_eq, putK_eq] at h
  exact ⟨h.1, fun Γ w us h1 h2 h3 => (h.2 Γ w us h1 h2 h3).mono fun e w' ⟨u, v, Γ', σ', nx', q1, q2, q3⟩ => ⟨u, v, Γ', σ', nx', q1, Ops.wp q2, q3⟩⟩
structure Again0 {ι : Type} (inv : ι → List (Nat × V)) (pre : ι → Prop) (μ : ι → Nat) (i : ι) (st : St) : Prop where
  h : ∃ j, pre j ∧ μ j < μ i ∧ envIs st.env (inv j)
def lpQ0 {ι : Type} (inv : ι → List (Nat × V)) (pre : ι → Prop) (μ : ι → Nat) (i : ι) (Q : Exit → St → Prop) : Exit → St → Prop
  | .normal, st => Again0 inv pre μ i st
  | e, st => Q e st
structure Again {ι : Type} (base : Nat) (inv : ι → St) (pre : ι → Prop) (μ : ι → Nat) (i : ι) (st : St) : Prop where
  h : ∃ j π, pre j ∧ μ j < μ i ∧ Wk base st (inv j) π
def lpQ {ι : Type} (base : Nat) (inv : ι → St) (pre : ι → Prop) (μ : ι → Nat) (i : ι) (Q : Exit → St → Prop) : Exit → St → Prop
  | .normal, st => Again base inv pre μ i st
  | e, st => Q e st
theorem Sat.lp0 {x : LCode} {st : St} {Q : Exit → St → Prop} {ι : Type} (inv : ι → List (Nat × V)) (pre : ι → Prop) (μ : ι → Nat) (i0 : ι) (h0 : pre i0) (hw : envIs st.env (inv i0))
    (round : ∀ i, pre i → wp P N base x ⟨inv i, [], base⟩ (lpQ0 inv pre μ i Q)) : SatL P N base (.loop x) st Q :=
  ⟨Sat.loop0 inv pre μ i0 h0 hw fun i hi => (Sat.of (round i hi)).mono fun e st h => by
    cases e with
    | normal => exact h.h
    | _ => exact h⟩
/-- Actual names for the head's names from base on. -/
def nmAt (base : Nat) (l : List Nat) (i : Nat) : Nat :=
  match Nat.ble base i with
  | true => l.getD (i - base) i
  | false => i
def distinct : List Nat → Bool
  | [] => true
  | x :: l => !(memN x l) && distinct l
def geAll (base : Nat) : List Nat → Bool
  | [] => true
  | x :: l => Nat.ble base x && geAll base l
def nmOk (base nx0 : Nat) (l : List Nat) : Bool := Nat.ble base nx0 && Nat.ble nx0 (base + l.length) && distinct l && geAll base l
theorem distinct_inj : ∀ {l : List Nat}, distinct l = true → ∀ (i j x : Nat), l[i]? = some x → l[j]? = some x → i = j
  | [], _, i, j, x, h, _ => by simp at h
  | y :: l, hd, i, j, x, hi, hj => by
    simp only [distinct, Bool.and_eq_true, Bool.not_eq_true'] at hd
    have hn : y ∉ l := fun h => by rw [memN_iff.2 h] at hd; cases hd.1
    cases i with
    | zero =>
      cases j with
      | zero => rfl
      | succ j =>
        simp only [List.getElem?_cons_zero, Option.some.injEq] at hi
        subst hi
        exact absurd (List.mem_of_getElem? (by simpa using hj)) hn
    | succ i =>
      cases j with
      | zero =>
        simp only [List.getElem?_cons_zero, Option.some.injEq] at hj
        subst hj
        exact absurd (List.mem_of_getElem? (by simpa using hi)) hn
      | succ j => rw [distinct_inj hd.2 i j x (by simpa using hi) (by simpa using hj)]
theorem geAll_get : ∀ {base : Nat} {l : List Nat}, geAll base l = true → ∀ x ∈ l, base ≤ x
  | _, [], _, x, h => by cases h
  | base, y :: l, hd, x, h => by
    simp only [geAll, Bool.and_eq_true] at hd
    rcases List.mem_cons.1 h with rfl | h
    · exact Nat.le_of_ble_eq_true hd.1
    · exact geAll_get hd.2 x h
theorem nmAt_lo {l : List Nat} {i : Nat} (h : i < base) : nmAt base l i = i := by
  unfold nmAt
  split
  · rename_i hb; have := Nat.le_of_ble_eq_true hb; omega
  · rfl
theorem nmAt_hi {l : List Nat} {i : Nat} (h : base ≤ i) : nmAt base l i = l.getD (i - base) i := by
  unfold nmAt
  split
  · rfl
  · rename_i hb; rw [Nat.ble_eq_true_of_le h] at hb; cases hb
def cLtB (n : Nat) : C → Bool
  | .fn _ ids => ltAll n ids
  | .bp id _ => Nat.blt id n
  | .ep id _ _ _ => Nat.blt id n
  | .ms id _ => Nat.blt id n
  | .yd id => Nat.blt id n
  | .mp id => Nat.blt id n
  | _ => true
  where ltAll (n : Nat) : List Nat → Bool
  | [] => true
  | i :: is => Nat.blt i n && ltAll n is
def csLtB (n : Nat) : List C → Bool
  | [] => true
  | c :: cs => cLtB n c && csLtB n cs
def vLtB (n : Nat) : V → Bool
  | .c x => cLtB n x
  | .agg cs => csLtB n cs
  | .tup _ => false
  | .unk => true
def envLtB (n : Nat) : List (Nat × V) → Bool
  | [] => true
  | (_, v) :: e => vLtB n v && envLtB n e
def eLtB (n : Nat) : Ent → Bool
  | .box cs => csLtB n cs
  | .row .. => true
  | .lp env _ _ _ => envLtB n env
  | .mp .. => true
def stoLtB (n : Nat) : Store → Bool
  | [] => true
  | (i, e) :: σ => Nat.blt i n && eLtB n e && stoLtB n σ
theorem blt_iff {a b : Nat} : Nat.blt a b = true ↔ a < b := by simp [Nat.blt_eq]
theorem ltAll_sound {n : Nat} : ∀ {l : List Nat}, cLtB.ltAll n l = true → ∀ i ∈ l, i < n
  | [], _, i, h => by cases h
  | x :: l, h, i, hi => by
    simp only [cLtB.ltAll, Bool.and_eq_true] at h
    rcases List.mem_cons.1 hi with rfl | hi
    · exact blt_iff.1 h.1
    · exact ltAll_sound h.2 i hi
theorem cLtB_sound {n : Nat} {c : C} (h : cLtB n c = true) : cLt n c := by
  cases c with
  | fn f ids => exact fun i hi => ltAll_sound h i hi
  | bp | ep | ms | yd | mp => exact blt_iff.1 h
  | _ => trivial
theorem csLtB_sound {n : Nat} : ∀ {cs : List C}, csLtB n cs = true → csLt n cs
  | [], _ => trivial
  | c :: cs, h => by simp only [csLtB, Bool.and_eq_true] at h; exact ⟨cLtB_sound h.1, csLtB_sound h.2⟩
theorem vLtB_sound {n : Nat} {v : V} (h : vLtB n v = true) : vLt n v := by
  cases v with
  | c x => exact cLtB_sound h
  | agg cs => exact csLtB_sound h
  | tup => cases h
  | unk => trivial
theorem envLtB_sound {n : Nat} : ∀ {e : List (Nat × V)}, envLtB n e = true → envLt n e
  | [], _ => trivial
  | (_, v) :: e, h => by simp only [envLtB, Bool.and_eq_true] at h; exact ⟨vLtB_sound h.1, envLtB_sound h.2⟩
theorem eLtB_sound {n : Nat} {e : Ent} (h : eLtB n e = true) : eLt n e := by
  cases e with
  | box cs => exact csLtB_sound h
  | row => trivial
  | lp => exact envLtB_sound h
  | mp => trivial
/-- The slots and the entries of a head: what is, is what the head says (renamed). -/
def envEq (π : Nat → Nat) (env : List (Nat × V)) : List (Nat × V) → Prop
  | [] => True
  | (t, v) :: e0 => VEq (lk env t) (rnV π v) ∧ envEq π env e0
def stoEq (π : Nat → Nat) (σ : Store) : Store → Prop
  | [] => True
  | (id, x) :: σ0 => (match get σ (π id) with | some y => EEq y (rnE π x) | none => False) ∧ stoEq π σ σ0
theorem envEq.ok {n : Nat} {π : Nat → Nat} {env : List (Nat × V)} : ∀ {e0 : List (Nat × V)}, envLtB n e0 = true → envEq π env e0 → envOk n π env e0
  | [], _, _ => trivial
  | (t, v) :: e0, hl, h => by
    simp only [envLtB, Bool.and_eq_true] at hl
    exact ⟨⟨h.1, vLtB_sound hl.1⟩, envEq.ok hl.2 h.2⟩
theorem stoEq.ok {n : Nat} {π : Nat → Nat} {σ : Store} : ∀ {σ0 : Store}, stoLtB n σ0 = true → stoEq π σ σ0 → stoOk n π σ σ0
  | [], _, _ => stoOk.nil
  | (id, x) :: σ0, hl, h => by
    simp only [stoLtB, Bool.and_eq_true] at hl
    refine stoOk.cons (blt_iff.1 hl.1.1) (eLtB_sound hl.1.2) ?_ (stoEq.ok hl.2 h.2)
    have := h.1
    split at this
    · rename_i y hy; exact ⟨y, hy, this⟩
    · exact this.elim
/-- A state is a head's, under these names. -/
structure Is (base : Nat) (st st0 : St) (l : List Nat) : Prop where
  nm : (nmOk base st0.nx l && envLtB st0.nx st0.env && stoLtB st0.nx st0.σ) = true
  env : envEq (nmAt base l) st.env st0.env
  sto : stoEq (nmAt base l) st.σ st0.σ
theorem Is.wk {st st0 : St} {l : List Nat} (h : Is base st st0 l) : Wk base st st0 (nmAt base l) := by
  have h1 := h.nm
  simp only [nmOk, Bool.and_eq_true] at h1
  obtain ⟨⟨⟨⟨⟨a1, a2⟩, a3⟩, a4⟩, a5⟩, a6⟩ := h1
  have a1 := Nat.le_of_ble_eq_true a1
  have a2 := Nat.le_of_ble_eq_true a2
  have hget : ∀ i, base ≤ i → i < st0.nx → ∃ x, l[i - base]? = some x ∧ nmAt base l i = x ∧ base ≤ x := fun i h1 h2 => by
    have hlt : i - base < l.length := by omega
    refine ⟨l[i - base], by simp [hlt], ?_, geAll_get a4 _ (List.getElem_mem hlt)⟩
    rw [nmAt_hi h1, List.getD_eq_getElem?_getD, List.getElem?_eq_getElem hlt]; rfl
  refine ⟨fun i hi => nmAt_lo hi, fun i j hi hj he => ?_, a1, h.env.ok a5, h.sto.ok a6⟩
  rcases Nat.lt_or_ge i base with h1 | h1 <;> rcases Nat.lt_or_ge j base with h2 | h2
  · rw [nmAt_lo h1, nmAt_lo h2] at he; exact he
  · obtain ⟨x, _, hx, hx'⟩ := hget j h2 hj
    rw [nmAt_lo h1, hx] at he; omega
  · obtain ⟨x, _, hx, hx'⟩ := hget i h1 hi
    rw [nmAt_lo h2, hx] at he; omega
  · obtain ⟨x, hx, hx', _⟩ := hget i h1 hi
    obtain ⟨y, hy, hy', _⟩ := hget j h2 hj
    rw [hx', hy'] at he
    subst he
    have := distinct_inj a3 _ _ _ hx hy
    omega
/-- A loop whose head holds names. -/
theorem Sat.lp {x : LCode} {st : St} {Q : Exit → St → Prop} {ι : Type} (inv : ι → St) (pre : ι → Prop) (μ : ι → Nat) (i0 : ι) (l : List Nat) (h0 : pre i0) (hw : Is base st (inv i0) l)
    (round : ∀ i, pre i → wp P N base x (inv i) (lpQ base inv pre μ i Q)) : SatL P N base (.loop x) st Q :=
  ⟨Sat.loop inv pre μ i0 _ h0 hw.wk fun i hi => (Sat.of (round i hi)).mono fun e st h => by
    cases e with
    | normal => exact h.h
    | _ => exact h⟩
theorem again {ι : Type} {inv : ι → St} {pre : ι → Prop} {μ : ι → Nat} {i : ι} {st : St} (j : ι) (l : List Nat) (h : pre j) (hm : μ j < μ i) (hw : Is base st (inv j) l) : Again base inv pre μ i st :=
  ⟨j, _, h, hm, hw.wk⟩
theorem again0 {ι : Type} {inv : ι → List (Nat × V)} {pre : ι → Prop} {μ : ι → Nat} {i : ι} {st : St} (j : ι) (h : pre j) (hm : μ j < μ i) (hw : envIs st.env (inv j)) : Again0 inv pre μ i st :=
  ⟨j, h, hm, hw⟩
theorem Sat.rf {f : Operand} {ps : List Nat} {la lb : LCode} {fid : FuncId} {ids : List Nat} {env : List (Nat × V)} {σ : Store} {nx : Nat} {Q : Exit → St → Prop} (hf : evo env f = .c (.fn fid ids)) (hps : ps.all (fun p => decide (p < N)) = true)
    (h : frNat (nx + 1) fun nx1 => CallS P fid (.c (.yd nx) :: ids.map fun k => .c (.bp k 0)) ((nx, .lp env .ready none (RR P N ps la lb)) :: σ) nx1 fun _ σ' nx' => frNat nx' fun nx' => rangeQ nx env Q σ' nx') : SatL P N base (.rangeFunc f ps la lb) ⟨env, σ, nx⟩ Q := by
  simp only [frNat_eq] at h
  exact ⟨Sat.rangeFunc (st := ⟨env, σ, nx⟩) hf hps h⟩
/-- What a round comes to. -/
def yieldQ (id : Nat) (R : Loop → Prop) (next : V → Store → Nat → Prop) : Exit → St → Prop
  | .normal, st => ∃ env2 s2 j2, get st.σ id = some (.lp env2 s2 j2 R) ∧ frS (set st.σ id (.lp env2 .ready none R)) fun σ => next (.c .tru) σ st.nx
  | .ret, st => ∃ env2 s2 j2, get st.σ id = some (.lp env2 s2 j2 R) ∧ frS (set st.σ id (.lp env2 .done (some .ret) R)) fun σ => next (.c .fls) σ st.nx
  | .exit k, st => ∃ env2 s2 j2, get st.σ id = some (.lp env2 s2 j2 R) ∧ frS (set st.σ id (.lp env2 .done (some (.exit k)) R)) fun σ => next (.c .fls) σ st.nx
  | _, _ => False
def bindK : List Nat → List V → List (Nat × V) → (List (Nat × V) → Prop) → Prop
  | p :: ps, v :: vs, env, k => frV v fun v => bindK ps vs ((p, v) :: env) k
  | _, _, env, k => k env
theorem bindK_eq : ∀ (ps : List Nat) (vs : List V) (env : List (Nat × V)) (k : List (Nat × V) → Prop), bindK ps vs env k = k (bindE ps vs env)
  | [], vs, env, k => by simp [bindK, bindE]
  | p :: ps, [], env, k => by simp [bindK, bindE]
  | p :: ps, v :: vs, env, k => by simp only [bindK, frV_eq, bindK_eq ps vs, bindE]
theorem Ops.yd {id N' : Nat} {dst : Option Nat} {fop : Operand} {xs : List Operand} {g : Option (Nat × Bool)} {rest : List LIns} {env : List (Nat × V)} {σ : Store} {nx : Nat} {K : St → Prop} {env0 : List (Nat × V)} {ps : List Nat} {la lb : LCode} (hf : evo env fop = .c (.yd id)) (hg : guardOf env g = .run)
    (hlp : get σ id = some (.lp env0 .ready none (RR P N' ps la lb))) (hlen : Nat.beq ps.length xs.length = true) (hr : (la.ranges || lb.ranges) = false)
    (h : bindK ps (xs.map (evo env)) env0 fun e => Pw.wp P N' nx la ⟨e, σ, nx⟩ fun e st1 => e = .normal ∧ ∃ env1, get st1.σ id = some (.lp env1 .ready none (RR P N' ps la lb)) ∧
      frS (set st1.σ id (.lp env1 .busy none (RR P N' ps la lb))) fun σ' => frNat st1.nx fun nx1 => Pw.wp P N' nx lb ⟨st1.env, σ', nx1⟩ (yieldQ id (RR P N' ps la lb) fun v σ' nx' => frNat nx' fun nx' => putK dst v env fun env' => wpOps P N base rest env' σ' nx' none K)) (hsa : la.strip = la := by exact rfl) (hsb : lb.strip = lb := by exact rfl) :
    OpsL P N base (⟨dst, .call fop xs, g⟩ :: rest) ⟨env, σ, nx⟩ K := by
  rw [bindK_eq] at h
  refine ⟨?_⟩
  simp only [Bool.or_eq_false_iff] at hr
  refine Ops.yield (i := ⟨dst, .call fop xs, g⟩) (st := ⟨env, σ, nx⟩) hg rfl hf hlp (Nat.eq_of_beq_eq_true hlen) hr.1 hr.2 ((hsa ▸ Sat.of h : Sat P N' nx la _ _).mono fun e st1 ⟨he, env1, h1, h2⟩ => ⟨he, env1, h1, ?_⟩)
  rw [frS_eq, frNat_eq] at h2
  refine (hsb ▸ Sat.of h2 : Sat P N' nx lb _ _).mono fun e st2 h3 => ?_
  cases e with
  | normal =>
    obtain ⟨env2, s2, j2, hg2, h4⟩ := h3
    simp only [frNat_eq, putK_eq, frS_eq] at h4
    exact ⟨env2, s2, j2, hg2, Ops.wp h4⟩
  | ret =>
    obtain ⟨env2, s2, j2, hg2, h4⟩ := h3
    simp only [frNat_eq, putK_eq, frS_eq] at h4
    exact ⟨env2, s2, j2, hg2, Ops.wp h4⟩
  | exit k =>
    obtain ⟨env2, s2, j2, hg2, h4⟩ := h3
    simp only [frNat_eq, putK_eq, frS_eq] at h4
    exact ⟨env2, s2, j2, hg2, Ops.wp h4⟩
  | _ => exact h3.elim
end
end Go.Pw

set_option linter.unusedVariables false
namespace Go.Pw
open Go Go.RowKit
abbrev dI (n : Int) : D := .v (.int .i64 n)
abbrev int (n : Int) : C := .d (.v (.int .i64 n))
abbrev r1 (n : Int) : List D := [dI n]
abbrev r2 (p : Int × Int) : List D := [dI p.1, dI p.2]
abbrev r3 (p : Int × Int × Int) : List D := [dI p.1, dI p.2.1, dI p.2.2]
abbrev slv {α : Type} (s : Nat) (row : α → List D) (d : α) (l : List α) : C := .d (.sl s l.length fun i => row (l.getD i d))
abbrev ints (l : List Int) : C := slv 1 r1 0 l
abbrev prs (l : List (Int × Int)) : C := slv 2 r2 (0, 0) l
abbrev trs (l : List (Int × Int × Int)) : C := slv 3 r3 (0, 0, 0) l
/-- A row that is owned, and holds a list. -/
abbrev rowv {α : Type} (e : TypeId) (s : Nat) (row : α → List D) (d : α) (l : List α) : Ent := .row e s l.length (fun i => row (l.getD i d)) false
theorem VEq.ms {id n m : Nat} (h : n = m) : VEq (.c (.ms id n)) (.c (.ms id m)) := by subst h; exact .refl _
theorem CEq.ms {id n m : Nat} (h : n = m) : CEq (.ms id n) (.ms id m) := by subst h; exact .refl _
theorem CEq.int {k : IntKind} {a b : Int} (h : a = b) : CEq (.d (.v (.int k a))) (.d (.v (.int k b))) := by subst h; exact .refl _
theorem CEq.sl {s n m : Nat} {f g : Nat → List D} (hn : n = m) (h : ∀ i, i < n → f i = g i) : CEq (.d (.sl s n f)) (.d (.sl s m g)) := by subst hn; exact .d _ _ (.sl _ _ _ _ h)
theorem CEq.nil {s : Nat} {g : Nat → List D} : CEq (.d (.v (.slice none 0 0))) (.d (.sl s 0 g)) := .d _ _ (.nil s g)
theorem VEq.nil {s : Nat} {g : Nat → List D} : VEq (.c (.d (.v (.slice none 0 0)))) (.c (.d (.sl s 0 g))) := .c _ _ .nil
/-- The same list. -/
theorem VEq.sll {α : Type} {s : Nat} {row : α → List D} {d : α} {l m : List α} (h : l = m) : VEq (.c (slv s row d l)) (.c (slv s row d m)) := by subst h; exact .refl _
theorem CEq.sll {α : Type} {s : Nat} {row : α → List D} {d : α} {l m : List α} (h : l = m) : CEq (slv s row d l) (slv s row d m) := by subst h; exact .refl _
def CEqs : List C → List C → Prop
  | [], [] => True
  | x :: xs, y :: ys => CEq x y ∧ CEqs xs ys
  | _, _ => False
theorem CEqs.length : ∀ {xs ys : List C}, CEqs xs ys → xs.length = ys.length
  | [], [], _ => rfl
  | x :: xs, y :: ys, h => by simp [CEqs.length h.2]
  | [], _ :: _, h => h.elim
  | _ :: _, [], h => h.elim
theorem CEqs.get : ∀ {xs ys : List C}, CEqs xs ys → ∀ (i : Nat) x y, xs[i]? = some x → ys[i]? = some y → CEq x y
  | [], [], _, i, x, y, h, _ => by simp at h
  | a :: xs, b :: ys, h, i, x, y, hx, hy => by
    cases i with
    | zero => simp at hx hy; subst hx; subst hy; exact h.1
    | succ i => exact CEqs.get h.2 i x y (by simpa using hx) (by simpa using hy)
  | [], _ :: _, h, _, _, _, _, _ => h.elim
  | _ :: _, [], h, _, _, _, _, _ => h.elim
theorem EEq.boxs {xs ys : List C} (h : CEqs xs ys) : EEq (.box xs) (.box ys) := .box xs ys h.length h.get
theorem VEq.aggs {xs ys : List C} (h : CEqs xs ys) : VEq (.agg xs) (.agg ys) := .agg xs ys h.length h.get
theorem EEq.same (x : Ent) : EEq x x := by
  cases x with
  | box xs => exact .box _ _ rfl fun i x y hx hy => by rw [hx] at hy; cases hy; exact .refl _
  | row => exact .row _ _ _ _ _ _ fun _ _ => rfl
  | lp => exact .lp _ _ _ _ _ fun _ => .refl _
  | mp m es => exact .mp m es
theorem EEq.rowl {e : TypeId} {s n m : Nat} {f g : Nat → List D} {fz : Bool} (hn : n = m) (h : ∀ i, i < n → f i = g i) : EEq (.row e s n f fz) (.row e s m g fz) := by subst hn; exact .row _ _ _ _ _ _ h
/-- One element more. -/
theorem row_app {α : Type} {row : α → List D} {d : α} {l : List α} {x : α} {r : List D} (h : r = row x) (i : Nat) (hi : i < l.length + 1) : (if i < l.length then row (l.getD i d) else ([r].getD (i - l.length) [])) = row ((l ++ [x]).getD i d) := by
  subst h
  by_cases hlt : i < l.length
  · rw [if_pos hlt, List.getD_eq_getElem?_getD, List.getD_eq_getElem?_getD, List.getElem?_append_left hlt]
  · have : i = l.length := by omega
    subst this
    simp
theorem EEq.app {α : Type} {e : TypeId} {s : Nat} {row : α → List D} {d : α} {l l' : List α} (x : α) {r : List D} (h : r = row x) (hl : l' = l ++ [x]) : EEq (.row e s (l.length + 1) (fun i => if i < l.length then row (l.getD i d) else ([r].getD (i - l.length) [])) false) (rowv e s row d l') := by
  subst hl
  exact EEq.rowl (by simp) fun i hi => row_app h i hi
theorem EEq.one {α : Type} {e : TypeId} {s : Nat} {row : α → List D} {d : α} {l' : List α} (x : α) {r : List D} (h : r = row x) (hl : l' = [x]) : EEq (.row e s 1 (fun i => [r].getD i []) false) (rowv e s row d l') := by
  subst hl
  subst h
  exact EEq.rowl rfl fun i hi => by
    have : i = 0 := by omega
    subst this; rfl
theorem EEq.app1 {e : TypeId} {l l' : List Int} {a : Int} (hl : l' = l ++ [a]) : EEq (.row e 1 (l.length + 1) (fun i => if i < l.length then r1 (l.getD i 0) else ([[dI a]].getD (i - l.length) [])) false) (rowv e 1 r1 0 l') := EEq.app a rfl hl
theorem EEq.app2 {e : TypeId} {l l' : List (Int × Int)} {a b : Int} (hl : l' = l ++ [(a, b)]) : EEq (.row e 2 (l.length + 1) (fun i => if i < l.length then r2 (l.getD i (0, 0)) else ([[dI a, dI b]].getD (i - l.length) [])) false) (rowv e 2 r2 (0, 0) l') := EEq.app (a, b) rfl hl
theorem EEq.app3 {e : TypeId} {l l' : List (Int × Int × Int)} {a b c : Int} (hl : l' = l ++ [(a, b, c)]) : EEq (.row e 3 (l.length + 1) (fun i => if i < l.length then r3 (l.getD i (0, 0, 0)) else ([[dI a, dI b, dI c]].getD (i - l.length) [])) false) (rowv e 3 r3 (0, 0, 0) l') := EEq.app (a, b, c) rfl hl
theorem CEq.li_1 {a0 : Int} : CEq (.d (.sl 1 [[dI a0]].length fun i => [[dI a0]].getD i [])) (ints [a0]) := CEq.sl rfl (fun i hi => by
  rcases i with _ | i
  · rfl
  exact absurd hi (by simp only [List.length_cons, List.length_nil]; omega))
theorem VEq.li_1 {a0 : Int} : VEq (.c (.d (.sl 1 [[dI a0]].length fun i => [[dI a0]].getD i []))) (.c (ints [a0])) := .c _ _ CEq.li_1
theorem CEq.li_2 {a0 a1 : Int} : CEq (.d (.sl 1 [[dI a0], [dI a1]].length fun i => [[dI a0], [dI a1]].getD i [])) (ints [a0, a1]) := CEq.sl rfl (fun i hi => by
  rcases i with _ | i
  · rfl
  rcases i with _ | i
  · rfl
  exact absurd hi (by simp only [List.length_cons, List.length_nil]; omega))
theorem VEq.li_2 {a0 a1 : Int} : VEq (.c (.d (.sl 1 [[dI a0], [dI a1]].length fun i => [[dI a0], [dI a1]].getD i []))) (.c (ints [a0, a1])) := .c _ _ CEq.li_2
theorem CEq.li_3 {a0 a1 a2 : Int} : CEq (.d (.sl 1 [[dI a0], [dI a1], [dI a2]].length fun i => [[dI a0], [dI a1], [dI a2]].getD i [])) (ints [a0, a1, a2]) := CEq.sl rfl (fun i hi => by
  rcases i with _ | i
  · rfl
  rcases i with _ | i
  · rfl
  rcases i with _ | i
  · rfl
  exact absurd hi (by simp only [List.length_cons, List.length_nil]; omega))
theorem VEq.li_3 {a0 a1 a2 : Int} : VEq (.c (.d (.sl 1 [[dI a0], [dI a1], [dI a2]].length fun i => [[dI a0], [dI a1], [dI a2]].getD i []))) (.c (ints [a0, a1, a2])) := .c _ _ CEq.li_3
theorem CEq.li_4 {a0 a1 a2 a3 : Int} : CEq (.d (.sl 1 [[dI a0], [dI a1], [dI a2], [dI a3]].length fun i => [[dI a0], [dI a1], [dI a2], [dI a3]].getD i [])) (ints [a0, a1, a2, a3]) := CEq.sl rfl (fun i hi => by
  rcases i with _ | i
  · rfl
  rcases i with _ | i
  · rfl
  rcases i with _ | i
  · rfl
  rcases i with _ | i
  · rfl
  exact absurd hi (by simp only [List.length_cons, List.length_nil]; omega))
theorem VEq.li_4 {a0 a1 a2 a3 : Int} : VEq (.c (.d (.sl 1 [[dI a0], [dI a1], [dI a2], [dI a3]].length fun i => [[dI a0], [dI a1], [dI a2], [dI a3]].getD i []))) (.c (ints [a0, a1, a2, a3])) := .c _ _ CEq.li_4
theorem CEq.lp_1 {a0 b0 : Int} : CEq (.d (.sl 2 [[dI a0, dI b0]].length fun i => [[dI a0, dI b0]].getD i [])) (prs [(a0, b0)]) := CEq.sl rfl (fun i hi => by
  rcases i with _ | i
  · rfl
  exact absurd hi (by simp only [List.length_cons, List.length_nil]; omega))
theorem VEq.lp_1 {a0 b0 : Int} : VEq (.c (.d (.sl 2 [[dI a0, dI b0]].length fun i => [[dI a0, dI b0]].getD i []))) (.c (prs [(a0, b0)])) := .c _ _ CEq.lp_1
theorem CEq.lp_2 {a0 b0 a1 b1 : Int} : CEq (.d (.sl 2 [[dI a0, dI b0], [dI a1, dI b1]].length fun i => [[dI a0, dI b0], [dI a1, dI b1]].getD i [])) (prs [(a0, b0), (a1, b1)]) := CEq.sl rfl (fun i hi => by
  rcases i with _ | i
  · rfl
  rcases i with _ | i
  · rfl
  exact absurd hi (by simp only [List.length_cons, List.length_nil]; omega))
theorem VEq.lp_2 {a0 b0 a1 b1 : Int} : VEq (.c (.d (.sl 2 [[dI a0, dI b0], [dI a1, dI b1]].length fun i => [[dI a0, dI b0], [dI a1, dI b1]].getD i []))) (.c (prs [(a0, b0), (a1, b1)])) := .c _ _ CEq.lp_2
theorem CEq.lp_3 {a0 b0 a1 b1 a2 b2 : Int} : CEq (.d (.sl 2 [[dI a0, dI b0], [dI a1, dI b1], [dI a2, dI b2]].length fun i => [[dI a0, dI b0], [dI a1, dI b1], [dI a2, dI b2]].getD i [])) (prs [(a0, b0), (a1, b1), (a2, b2)]) := CEq.sl rfl (fun i hi => by
  rcases i with _ | i
  · rfl
  rcases i with _ | i
  · rfl
  rcases i with _ | i
  · rfl
  exact absurd hi (by simp only [List.length_cons, List.length_nil]; omega))
theorem VEq.lp_3 {a0 b0 a1 b1 a2 b2 : Int} : VEq (.c (.d (.sl 2 [[dI a0, dI b0], [dI a1, dI b1], [dI a2, dI b2]].length fun i => [[dI a0, dI b0], [dI a1, dI b1], [dI a2, dI b2]].getD i []))) (.c (prs [(a0, b0), (a1, b1), (a2, b2)])) := .c _ _ CEq.lp_3
theorem CEq.lp_4 {a0 b0 a1 b1 a2 b2 a3 b3 : Int} : CEq (.d (.sl 2 [[dI a0, dI b0], [dI a1, dI b1], [dI a2, dI b2], [dI a3, dI b3]].length fun i => [[dI a0, dI b0], [dI a1, dI b1], [dI a2, dI b2], [dI a3, dI b3]].getD i [])) (prs [(a0, b0), (a1, b1), (a2, b2), (a3, b3)]) := CEq.sl rfl (fun i hi => by
  rcases i with _ | i
  · rfl
  rcases i with _ | i
  · rfl
  rcases i with _ | i
  · rfl
  rcases i with _ | i
  · rfl
  exact absurd hi (by simp only [List.length_cons, List.length_nil]; omega))
theorem VEq.lp_4 {a0 b0 a1 b1 a2 b2 a3 b3 : Int} : VEq (.c (.d (.sl 2 [[dI a0, dI b0], [dI a1, dI b1], [dI a2, dI b2], [dI a3, dI b3]].length fun i => [[dI a0, dI b0], [dI a1, dI b1], [dI a2, dI b2], [dI a3, dI b3]].getD i []))) (.c (prs [(a0, b0), (a1, b1), (a2, b2), (a3, b3)])) := .c _ _ CEq.lp_4
theorem CEq.lt_1 {a0 b0 c0 : Int} : CEq (.d (.sl 3 [[dI a0, dI b0, dI c0]].length fun i => [[dI a0, dI b0, dI c0]].getD i [])) (trs [(a0, b0, c0)]) := CEq.sl rfl (fun i hi => by
  rcases i with _ | i
  · rfl
  exact absurd hi (by simp only [List.length_cons, List.length_nil]; omega))
theorem VEq.lt_1 {a0 b0 c0 : Int} : VEq (.c (.d (.sl 3 [[dI a0, dI b0, dI c0]].length fun i => [[dI a0, dI b0, dI c0]].getD i []))) (.c (trs [(a0, b0, c0)])) := .c _ _ CEq.lt_1
theorem CEq.lt_2 {a0 b0 c0 a1 b1 c1 : Int} : CEq (.d (.sl 3 [[dI a0, dI b0, dI c0], [dI a1, dI b1, dI c1]].length fun i => [[dI a0, dI b0, dI c0], [dI a1, dI b1, dI c1]].getD i [])) (trs [(a0, b0, c0), (a1, b1, c1)]) := CEq.sl rfl (fun i hi => by
  rcases i with _ | i
  · rfl
  rcases i with _ | i
  · rfl
  exact absurd hi (by simp only [List.length_cons, List.length_nil]; omega))
theorem VEq.lt_2 {a0 b0 c0 a1 b1 c1 : Int} : VEq (.c (.d (.sl 3 [[dI a0, dI b0, dI c0], [dI a1, dI b1, dI c1]].length fun i => [[dI a0, dI b0, dI c0], [dI a1, dI b1, dI c1]].getD i []))) (.c (trs [(a0, b0, c0), (a1, b1, c1)])) := .c _ _ CEq.lt_2
theorem CEq.lt_3 {a0 b0 c0 a1 b1 c1 a2 b2 c2 : Int} : CEq (.d (.sl 3 [[dI a0, dI b0, dI c0], [dI a1, dI b1, dI c1], [dI a2, dI b2, dI c2]].length fun i => [[dI a0, dI b0, dI c0], [dI a1, dI b1, dI c1], [dI a2, dI b2, dI c2]].getD i [])) (trs [(a0, b0, c0), (a1, b1, c1), (a2, b2, c2)]) := CEq.sl rfl (fun i hi => by
  rcases i with _ | i
  · rfl
  rcases i with _ | i
  · rfl
  rcases i with _ | i
  · rfl
  exact absurd hi (by simp only [List.length_cons, List.length_nil]; omega))
theorem VEq.lt_3 {a0 b0 c0 a1 b1 c1 a2 b2 c2 : Int} : VEq (.c (.d (.sl 3 [[dI a0, dI b0, dI c0], [dI a1, dI b1, dI c1], [dI a2, dI b2, dI c2]].length fun i => [[dI a0, dI b0, dI c0], [dI a1, dI b1, dI c1], [dI a2, dI b2, dI c2]].getD i []))) (.c (trs [(a0, b0, c0), (a1, b1, c1), (a2, b2, c2)])) := .c _ _ CEq.lt_3
section
variable {P : Program} {N base : Nat}
/-- These slots alone. -/
def keepK : List Nat → List (Nat × V) → (List (Nat × V) → Prop) → Prop
  | [], _, k => k []
  | t :: ts, env, k => frV (lk env t) fun v => keepK ts env fun e => k ((t, v) :: e)
def keepE (env : List (Nat × V)) : List Nat → List (Nat × V)
  | [] => []
  | t :: ts => (t, lk env t) :: keepE env ts
theorem keepK_eq : ∀ (ts : List Nat) (env : List (Nat × V)) (k : List (Nat × V) → Prop), keepK ts env k = k (keepE env ts)
  | [], env, k => rfl
  | t :: ts, env, k => by simp only [keepK, frV_eq, keepK_eq ts, keepE]
theorem lk_keepE {env : List (Nat × V)} {t : Nat} : ∀ (ts : List Nat), RI (lk env t) (lk (keepE env ts) t)
  | [] => fun _ _ _ _ => .unk _
  | x :: ts => by
    rw [keepE, lk_cons]
    split
    · rename_i h; subst h; exact RI.refl _
    · exact lk_keepE ts
theorem Mv.keep {env : List (Nat × V)} {σ : Store} {nx : Nat} (ts : List Nat) : Mv base ⟨env, σ, nx⟩ ⟨keepE env ts, σ, nx⟩ := Mv.env fun t => lk_keepE ts
theorem Sat.keep {x : LCode} {env : List (Nat × V)} {σ : Store} {nx : Nat} {Q : Exit → St → Prop} (ts : List Nat) (h : keepK ts env fun env' => SatL P N base x ⟨env', σ, nx⟩ Q) : SatL P N base x ⟨env, σ, nx⟩ Q := by
  rw [keepK_eq] at h
  exact ⟨Sat.from (Mv.keep ts) h.h⟩
theorem RetQ.of {nx : Nat} {rl : List RL} {vs vs0 : List V} {σ' : Store} {nx' : Nat} {e : Exit} {env : List (Nat × V)} {σ : Store} {nx1 : Nat} (he : e = .normal ∨ e = .ret) (hres : resAll env σ rl = some vs0) (hl : Nat.beq vs0.length vs.length = true) (h : Mv nx ⟨argEnv 0 vs0, σ, nx1⟩ ⟨argEnv 0 vs, σ', nx'⟩) : RetQ nx rl vs σ' nx' e ⟨env, σ, nx1⟩ :=
  ⟨he, vs0, hres, Nat.eq_of_beq_eq_true hl, h⟩
theorem Mv.plain {nx nx1 nx' : Nat} {env : List (Nat × V)} {σ : Store} {vs : List V} (hle : Nat.ble nx nx' = true) (h : envIs env (argEnv 0 vs)) : Mv nx ⟨env, σ, nx1⟩ ⟨argEnv 0 vs, [], nx'⟩ :=
  Mv.weaken (Wk.plain (Nat.le_of_ble_eq_true hle) h)
/-- A row within an aggregate is closed. -/
def putAt : List C → Nat → C → List C
  | [], _, _ => []
  | _ :: cs, 0, x => x :: cs
  | c :: cs, n + 1, x => c :: putAt cs n x
theorem putAt_get : ∀ (cs : List C) (n i : Nat) (x : C), (putAt cs n x)[i]? = if i = n ∧ n < cs.length then some x else cs[i]?
  | [], n, i, x => by simp [putAt]
  | c :: cs, 0, i, x => by cases i <;> simp [putAt]
  | c :: cs, n + 1, i, x => by cases i <;> simp [putAt, putAt_get cs n]
theorem putAt_length : ∀ (cs : List C) (n : Nat) (x : C), (putAt cs n x).length = cs.length
  | [], _, _ => rfl
  | _ :: _, 0, _ => rfl
  | _ :: cs, n + 1, x => by simp [putAt, putAt_length cs n x]
/-- At a call: the row of slot t is closed. -/
theorem OpsL.frz {ops : List LIns} {K : St → Prop} {env : List (Nat × V)} {σ : Store} {nx : Nat} (t id : Nat) {n : Nat} {e : TypeId} {s m : Nat} {f : Nat → List D} {fz : Bool} (h : lk env t = .c (.ms id n)) (hg : get σ id = some (.row e s m f fz)) (hn : n ≤ m)
    (k : frS (set σ id (.row e s m f true)) fun σ' => OpsL P N base ops ⟨(t, .c (.d (.sl s n f))) :: env, σ', nx⟩ K) : OpsL P N base ops ⟨env, σ, nx⟩ K := by
  rw [frS_eq] at k
  exact ⟨Ops.from (Mv.freeze t id h hg hn) k.h⟩
/-- At the end of a loop: the row of slot t is closed. -/
theorem MvQ.frz {Q : Exit → St → Prop} {x : Exit} {env : List (Nat × V)} {σ : Store} {nx : Nat} (t id : Nat) {n : Nat} {e : TypeId} {s m : Nat} {f : Nat → List D} {fz : Bool} (h : lk env t = .c (.ms id n)) (hg : get σ id = some (.row e s m f fz)) (hn : n ≤ m)
    (k : frS (set σ id (.row e s m f true)) fun σ' => MvQ base Q x ⟨(t, .c (.d (.sl s n f))) :: env, σ', nx⟩) : MvQ base Q x ⟨env, σ, nx⟩ := by
  rw [frS_eq] at k
  exact MvQ.from (Mv.freeze t id h hg hn) k
/-- A nil slice in a box gets a name. -/
theorem Mv.nilB {env : List (Nat × V)} {σ : Store} {nx : Nat} (idb j : Nat) (e : TypeId) (s : Nat) (f : Nat → List D) {cs : List C} (hg : get σ idb = some (.box cs)) (hj : cs[j]? = some (.d (.v (.slice none 0 0)))) :
    Mv base ⟨env, σ, nx⟩ ⟨env, set ((nx, .row e s 0 f false) :: σ) idb (.box (putAt cs j (.ms nx 0))), nx + 1⟩ := fun N B0 Γ w a hc => by
  have hid := hc.free nx (Nat.le_refl _)
  obtain ⟨h1, h2⟩ := name_nil hc.ok hid hc.le e s f
  obtain ⟨b, hb, hok⟩ := hc.ok.ok idb _ hg
  have hne : idb ≠ nx := fun h => by subst h; rw [hid] at hb; cases hb
  have hg' : get ((nx, Ent.row e s 0 f false) :: σ) idb = some (.box cs) := by rw [get_cons_other hne]; exact hg
  have hb' : (Γ.upd nx 0 none).ρ idb = some b := by rw [upd_ρ hne]; exact hb
  have hle := CxLe.upd Γ 0 none hid
  obtain ⟨b2, hb2, hok2⟩ := h1.ok idb _ hg'
  rw [hb'] at hb2; cases hb2
  obtain ⟨hI, xs, t, hh, hl, hr⟩ := hok2
  have h3 := h1.modify (w' := w) (e' := .box (putAt cs j (.ms nx 0))) hg' hb' trivial (Nat.le_refl _) (fun _ _ _ => rfl) ⟨hI, xs, t, hh, by rw [hl, putAt_length], fun i c hc' => by
    rw [putAt_get] at hc'
    split at hc'
    · rename_i hi
      cases hc'
      obtain ⟨rfl, hi⟩ := hi
      obtain ⟨x, hx, hrx⟩ := hr i _ hj
      refine ⟨x, hx, 0, upd_ρ_same, .inl ⟨rfl, upd_κ_same, ?_⟩⟩
      generalize hd : D.v (.slice none 0 0) = d at hrx
      cases (show RepD _ w d x from hrx) <;> first | cases hd
      rfl
    · exact hr i c hc'⟩
  have hext : Ext base Γ w σ (Γ.upd nx 0 none) w (set ((nx, .row e s 0 f false) :: σ) idb (.box (putAt cs j (.ms nx 0)))) :=
    ⟨h2.os, h2.tape, h2.output, h2.size, h2.im, h2.new, h2.ρ, h2.κ, h2.keep, fun k hk => h2.live k (live_set hg' trivial hk)⟩
  refine ⟨_, ⟨hc.size, fun t' => (hc.env t').mono hle (fun _ _ => rfl), h3, fun id hid' => ?_, Nat.le_succ_of_le hc.le, ?_⟩, hext⟩
  · rw [upd_ρ (by have : nx + 1 ≤ id := hid'; omega)]; exact hc.free id (by have : nx + 1 ≤ id := hid'; show nx ≤ id; omega)
  · obtain ⟨Ds, d1, d2, d3⟩ := hc.dfs
    refine ⟨Ds, d1, d2, fun D hD => ?_⟩
    obtain ⟨d4, d5, d6, d7⟩ := d3 D hD
    refine ⟨d4, d5, fun hlv => ?_, d7⟩
    rcases hext.live D hlv with h3 | h3
    · exact d6 h3
    · have := (Array.getElem?_eq_some_iff.1 d7).1; omega
theorem Sat.nilB {x : LCode} {env : List (Nat × V)} {σ : Store} {nx : Nat} {Q : Exit → St → Prop} (idb j : Nat) (e : TypeId) (s : Nat) (f : Nat → List D) {cs : List C} (hg : get σ idb = some (.box cs)) (hj : cs[j]? = some (.d (.v (.slice none 0 0))))
    (h : frS (set ((nx, .row e s 0 f false) :: σ) idb (.box (putAt cs j (.ms nx 0)))) fun σ' => frNat (nx + 1) fun nx' => SatL P N base x ⟨env, σ', nx'⟩ Q) : SatL P N base x ⟨env, σ, nx⟩ Q := by
  rw [frS_eq, frNat_eq] at h
  exact ⟨Sat.from (Mv.nilB idb j e s f hg hj) h.h⟩
/-- A nil slice in a slot gets a name. -/
theorem Sat.nilS {x : LCode} {env : List (Nat × V)} {σ : Store} {nx : Nat} {Q : Exit → St → Prop} (t : Nat) (e : TypeId) (s : Nat) (f : Nat → List D) (h : lk env t = .c (.d (.v (.slice none 0 0))))
    (k : frNat (nx + 1) fun nx' => SatL P N base x ⟨(t, .c (.ms nx 0)) :: env, (nx, .row e s 0 f false) :: σ, nx'⟩ Q) : SatL P N base x ⟨env, σ, nx⟩ Q := by
  rw [frNat_eq] at k
  exact ⟨Sat.from (Mv.nilms t e s f h) k.h⟩
end
end Go.Pw

set_option linter.unusedVariables false
set_option linter.unusedSectionVars false
namespace Go.Pw
open Go Go.RowKit Go.ChangeShapes Go.WideShapes
inductive Sh
  | int (k : IntKind)
  | bool
  | str
  | sl (row : List Sh)
/-- Shapes of a struct's fields, laid one behind the other. -/
def shFields (cells : TypeId → Nat) (sh : TypeId → Option (List Sh)) : Nat → List Field → Option (List Sh)
  | _, [] => some []
  | o, f :: fs => if f.offset = o then (sh f.type).bind fun a => if a.length = cells f.type then (shFields cells sh (o + cells f.type) fs).map fun b => a ++ b else none else none
/-- The shape of a type's cells. -/
def shOf (P : Program) : Nat → TypeId → Option (List Sh)
  | 0, _ => none
  | m + 1, t => match P.underlying t with
    | some (.int k) => some [.int k]
    | some .bool => some [.bool]
    | some .string => some [.str]
    | some (.struct fs) => (shFields P.cellsOf (shOf P m) 0 fs.toList).bind fun l => if l.length = P.cellsOf t then some l else none
    | some (.array n e) => (shOf P m e).bind fun a => if a.length = P.cellsOf e ∧ n * P.cellsOf e = P.cellsOf t then some (List.replicate n a).flatten else none
    | some (.slice e) => (shOf P m e).bind fun a => if a.length = P.cellsOf e ∧ a.length ≠ 0 then some [.sl a] else none
    | _ => none
mutual
def OkD : Sh → D → Prop
  | .int k, d => ∃ n, d = .v (.int k n) ∧ k.has n = true
  | .bool, d => ∃ b, d = .v (.bool b)
  | .str, d => ∃ s : ByteArray, d = .v (.string s) ∧ s.size ≤ maxLen
  | .sl row, d => ∃ n f, d = .sl row.length n f ∧ n ≤ maxLen ∧ ∀ i, i < n → OkDs row (f i)
def OkDs : List Sh → List D → Prop
  | [], [] => True
  | s :: ss, d :: ds => OkD s d ∧ OkDs ss ds
  | _, _ => False
end
theorem OkDs.length : ∀ {ss : List Sh} {ds : List D}, OkDs ss ds → ds.length = ss.length
  | [], [], _ => rfl
  | s :: ss, d :: ds, h => by unfold OkDs at h; simp [OkDs.length h.2]
  | [], _ :: _, h => by unfold OkDs at h; exact h.elim
  | _ :: _, [], h => by unfold OkDs at h; exact h.elim
theorem OkDs.app : ∀ {ss tt : List Sh} {ds es : List D}, OkDs ss ds → OkDs tt es → OkDs (ss ++ tt) (ds ++ es)
  | [], _, [], _, _, h => h
  | s :: ss, tt, d :: ds, es, h, h' => by
    unfold OkDs at h
    show OkDs (s :: (ss ++ tt)) (d :: (ds ++ es))
    unfold OkDs
    exact ⟨h.1, OkDs.app h.2 h'⟩
  | [], _, _ :: _, _, h, _ => by unfold OkDs at h; exact h.elim
  | _ :: _, _, [], _, h, _ => by unfold OkDs at h; exact h.elim
/-- Cells that stand for data. -/
def Reps (I : Nat → Prop) (w : World) (ds : List D) (cs : List Value) : Prop := cs.length = ds.length ∧ ∀ (i : Nat) d u, ds[i]? = some d → cs[i]? = some u → RepD I w d u
theorem Reps.nil {I : Nat → Prop} {w : World} : Reps I w [] [] := ⟨rfl, fun i d u h => by simp at h⟩
theorem Reps.one {I : Nat → Prop} {w : World} {d : D} {u : Value} (h : RepD I w d u) : Reps I w [d] [u] := ⟨rfl, fun i d' u' hd hu => by
  cases i with
  | zero => simp at hd hu; subst hd; subst hu; exact h
  | succ i => simp at hd⟩
theorem Reps.app {I : Nat → Prop} {w : World} {ds es : List D} {cs us : List Value} (h : Reps I w ds cs) (h' : Reps I w es us) : Reps I w (ds ++ es) (cs ++ us) := by
  refine ⟨by simp [h.1, h'.1], fun i d u hd hu => ?_⟩
  rcases Nat.lt_or_ge i ds.length with hi | hi
  · rw [List.getElem?_append_left hi] at hd
    rw [List.getElem?_append_left (by rw [h.1]; exact hi)] at hu
    exact h.2 i d u hd hu
  · rw [List.getElem?_append_right hi] at hd
    rw [List.getElem?_append_right (by rw [h.1]; exact hi), h.1] at hu
    exact h'.2 _ d u hd hu
section
variable {H : Type} {enc : TypeId × Value → H} {P : Program} {w : World} {base : Nat} {spare : Nat → Bool} {held : Bool}
theorem trod_array' {t e : TypeId} {n fuel : Nat} {cs : List Value} {x : DataW H × List MemPlace} (ht : P.underlying t = some (.array n e)) (h : DataW.trod enc P w base spare held fuel t cs = some x) :
    ∃ m, cs.length = P.cellsOf t ∧ ∀ i, i < n → ∃ y, DataW.trod enc P w base spare held m e ((cs.drop (i * P.cellsOf e)).take (P.cellsOf e)) = some y := by
  cases fuel with
  | zero => simp [DataW.trod] at h
  | succ m =>
    unfold DataW.trod at h
    rw [ht] at h
    simp only at h
    split at h
    · rename_i hl
      rw [Option.map_eq_some_iff] at h
      obtain ⟨xs, h1, _⟩ := h
      refine ⟨m, hl, fun i hi => ?_⟩
      have := mapM_some_get h1 i i (by simp [hi])
      have hlen := mapM_some_length h1
      rw [List.getElem?_eq_getElem (by rw [hlen]; simpa using hi)] at this
      exact ⟨_, this⟩
    · cases h
theorem trod_fields {m : Nat} (ih : ∀ (t : TypeId) (sh : List Sh) (fuel : Nat) (cs : List Value) (x : DataW H × List MemPlace), shOf P m t = some sh → DataW.trod enc P w base spare held fuel t cs = some x → ∃ ds, OkDs sh ds ∧ Reps (fun b => b < w.heap.size) w ds cs) {fuel : Nat} :
    ∀ (fs : List Field) (o : Nat) (sh : List Sh) (cs : List Value), shFields P.cellsOf (shOf P m) o fs = some sh → (∀ f ∈ fs, ∃ y, DataW.trod enc P w base spare held fuel f.type ((cs.drop f.offset).take (P.cellsOf f.type)) = some y) →
      o + sh.length = cs.length → ∃ ds, OkDs sh ds ∧ Reps (fun b => b < w.heap.size) w ds (cs.drop o)
  | [], o, sh, cs, h, _, hl => by
    simp only [shFields, Option.some.injEq] at h
    subst h
    refine ⟨[], by unfold OkDs; trivial, ?_⟩
    rw [List.drop_of_length_le (by simp at hl; omega)]
    exact Reps.nil
  | f :: fs, o, sh, cs, h, hf, hl => by
    simp only [shFields] at h
    split at h
    · rename_i ho
      rw [Option.bind_eq_some_iff] at h
      obtain ⟨a, ha, h⟩ := h
      split at h
      · rename_i hal
        rw [Option.map_eq_some_iff] at h
        obtain ⟨b, hb, rfl⟩ := h
        obtain ⟨y, hy⟩ := hf f (by simp)
        rw [ho] at hy
        obtain ⟨ds, h1, h2⟩ := ih f.type a fuel _ y ha hy
        rw [List.length_append] at hl
        obtain ⟨es, h3, h4⟩ := trod_fields ih fs (o + P.cellsOf f.type) b cs hb (fun g hg => hf g (by simp [hg])) (by omega)
        refine ⟨ds ++ es, h1.app h3, ?_⟩
        have := h2.app h4
        rwa [← List.drop_drop, List.take_append_drop] at this
      · cases h
    · cases h
theorem reps_array {I : Nat → Prop} {c : Nat} {sh : List Sh} : ∀ (n : Nat) (cs : List Value), cs.length = n * c → (∀ i, i < n → ∃ ds, OkDs sh ds ∧ Reps I w ds ((cs.drop (i * c)).take c)) → ∃ ds, OkDs (List.replicate n sh).flatten ds ∧ Reps I w ds cs
  | 0, cs, hl, _ => by
    have : cs = [] := List.length_eq_zero_iff.1 (by simpa using hl)
    subst this
    exact ⟨[], by simp only [List.replicate, List.flatten]; unfold OkDs; trivial, Reps.nil⟩
  | n + 1, cs, hl, h => by
    obtain ⟨ds, h1, h2⟩ := h 0 (Nat.succ_pos _)
    obtain ⟨es, h3, h4⟩ := reps_array (c := c) (sh := sh) n (cs.drop c) (by rw [List.length_drop, hl, Nat.succ_mul]; omega) (fun i hi => by
      obtain ⟨es, h3, h4⟩ := h (i + 1) (by omega)
      refine ⟨es, h3, ?_⟩
      rwa [List.drop_drop, show c + i * c = (i + 1) * c by rw [Nat.succ_mul]; omega])
    refine ⟨ds ++ es, ?_, ?_⟩
    · rw [List.replicate_succ, List.flatten_cons]; exact h1.app h3
    · simp only [Nat.zero_mul, List.drop_zero] at h2
      have := h2.app h4
      rwa [List.take_append_drop] at this
theorem has_of_wf {k : IntKind} {n : Int} (h : (Lit.int k n).wf = true) : k.has n = true := by
  simpa [Lit.wf, IntKind.has] using h
theorem trod_reps : ∀ (m : Nat) (t : TypeId) (sh : List Sh) (fuel : Nat) (cs : List Value) (x : DataW H × List MemPlace), shOf P m t = some sh → DataW.trod enc P w base spare held fuel t cs = some x →
    ∃ ds, OkDs sh ds ∧ Reps (fun b => b < w.heap.size) w ds cs := by
  intro m
  induction m with
  | zero => intro t sh fuel cs x h; simp [shOf] at h
  | succ m ih =>
    intro t sh fuel cs x h hx
    unfold shOf at h
    split at h
    · rename_i k hu
      cases h
      obtain ⟨n, rfl, _, hw⟩ := DataW.trod_int hu hx
      exact ⟨[.v (.int k n)], by unfold OkDs; exact ⟨by unfold OkD; exact ⟨n, rfl, has_of_wf hw⟩, by unfold OkDs; trivial⟩, Reps.one (.v _ rfl)⟩
    · rename_i hu
      cases h
      obtain ⟨b, rfl, _⟩ := DataW.trod_bool hu hx
      exact ⟨[.v (.bool b)], by unfold OkDs; exact ⟨by unfold OkD; exact ⟨b, rfl⟩, by unfold OkDs; trivial⟩, Reps.one (.v _ rfl)⟩
    · rename_i hu
      cases h
      obtain ⟨s, rfl, _, hs⟩ := DataW.trod_string hu hx
      exact ⟨[.v (.string s)], by unfold OkDs; exact ⟨by unfold OkD; exact ⟨s, rfl, hs⟩, by unfold OkDs; trivial⟩, Reps.one (.v _ rfl)⟩
    · rename_i fs hu
      rw [Option.bind_eq_some_iff] at h
      obtain ⟨l, hl, h⟩ := h
      split at h
      · rename_i hc
        cases h
        obtain ⟨xs, n, rfl, _, hlen, hxl, hfs⟩ := DataW.trod_struct hu hx
        obtain ⟨ds, h1, h2⟩ := trod_fields (fuel := n) ih fs.toList 0 sh cs hl (fun f hf => by
          obtain ⟨i, hi, rfl⟩ := List.getElem_of_mem hf
          have h3 := hfs i fs.toList[i] (by simp)
          rw [List.getElem?_eq_getElem (by rw [hxl]; simpa using hi)] at h3
          exact ⟨_, h3⟩) (by omega)
        exact ⟨ds, h1, by simpa using h2⟩
      · cases h
    · rename_i n e hu
      rw [Option.bind_eq_some_iff] at h
      obtain ⟨a, ha, h⟩ := h
      split at h
      · rename_i hc
        cases h
        obtain ⟨m', hlen, hy⟩ := trod_array' hu hx
        exact reps_array n cs (by rw [hlen, hc.2]) (fun i hi => by
          obtain ⟨y, hy⟩ := hy i hi
          exact ih e a m' _ y ha hy)
      · cases h
    · rename_i e hu
      rw [Option.bind_eq_some_iff] at h
      obtain ⟨a, ha, h⟩ := h
      split at h
      · rename_i hca
        obtain ⟨hc, hca⟩ := hca
        cases h
        rcases Deep.open_slice hu hx with ⟨rfl, _⟩ | ⟨ad, len, cap, mm, n, D0, Pl, rfl, _, hlc, hcm, hmm, _, hel⟩
        · exact ⟨[.sl a.length 0 fun _ => []], by unfold OkDs; exact ⟨by unfold OkD; exact ⟨0, _, rfl, Nat.zero_le _, fun i hi => absurd hi (Nat.not_lt_zero _)⟩, by unfold OkDs; trivial⟩, Reps.one (.slE _ _ _ _)⟩
        · have hle : len ≤ mm := by rw [hmm]; split <;> omega
          have hall : ∀ i, i < len → ∃ p : List D × List Value, OkDs a p.1 ∧ Reps (fun b => b < w.heap.size) w p.1 p.2 ∧ w.cells? base (ad.add (i * P.cellsOf e)) (P.cellsOf e) = some p.2 := fun i hi => by
            obtain ⟨cs', h1, h2⟩ := hel i (by omega)
            obtain ⟨ds, h3, h4⟩ := ih e a n cs' _ ha h2
            exact ⟨(ds, cs'), h3, h4, h1⟩
          obtain ⟨f, hf⟩ := Deep.choose_lt hall
          refine ⟨[.sl a.length len fun i => (f i).1], by unfold OkDs; exact ⟨by unfold OkD; exact ⟨len, _, rfl, by omega, fun i hi => (hf i hi).1⟩, by unfold OkDs; trivial⟩, Reps.one ?_⟩
          by_cases h0 : len = 0
          · subst h0; exact .slE _ _ _ _
          refine .sl _ _ _ _ _ (fun i j => ((f i).2[j]?).getD (.bool false)) hlc ?_ (fun i hi => (hf i hi).1.length) (fun i j d hi hd => ?_) (fun i j d hi hd => ?_)
          · obtain ⟨_, h2, h3⟩ := hf 0 (by omega)
            have := World.cells?_block h3 (by omega)
            unfold Addr.add at this
            simpa using this
          · obtain ⟨h1, h2, h3⟩ := hf i hi
            obtain ⟨_, h4, h5⟩ := World.cells?_some h3
            have hj : j < (f i).1.length := (List.getElem?_eq_some_iff.1 hd).1
            rw [h2.1.symm, h4] at hj
            have h6 := h5 j hj
            rw [List.getElem?_eq_getElem (by omega)] at h6
            rw [Deep.add_add] at h6
            rw [hc, h6, List.getElem?_eq_getElem (by omega)]
            rfl
          · obtain ⟨h1, h2, h3⟩ := hf i hi
            have hj : j < (f i).1.length := (List.getElem?_eq_some_iff.1 hd).1
            rw [← h2.1] at hj
            rw [List.getElem?_eq_getElem hj]
            exact h2.2 j d _ hd (List.getElem?_eq_getElem hj)
      · cases h
    · cases h
/-- Arguments of given shapes: whether it is a struct or an array, and its cells. -/
def shAll (P : Program) : List TypeId → Option (List (Bool × List Sh))
  | [] => some []
  | t :: ts => (shOf P 20 t).bind fun s => if P.readableRec t = true ∧ t < P.types.size then (shAll P ts).map fun r => ((match P.underlying t with | some (.struct _) | some (.array _ _) => true | _ => false), s) :: r else none
def ArgOk : List (Bool × List Sh) → List V → Prop
  | [], [] => True
  | (b, sh) :: r, v :: vs => (∃ ds, OkDs sh ds ∧ (b = true ∧ v = .agg (ds.map .d) ∨ b = false ∧ ∃ d, ds = [d] ∧ v = .c (.d d))) ∧ ArgOk r vs
  | _, _ => False
theorem okWide_agg {t : TypeId} {v : Value} (h : Value.okWide P w .any base t v) (hb : (match P.underlying t with | some (.struct _) | some (.array _ _) => true | _ => false) = true) : ∃ cs, v = .agg cs := by
  unfold Value.okWide at h
  split at hb
  · rename_i fs hu; rw [hu] at h; exact ⟨_, h.choose_spec.1⟩
  · rename_i n e hu; rw [hu] at h; exact ⟨_, h.choose_spec.1⟩
  · cases hb
theorem below_all (hl : laidOutB P = true) {W W' : World} (hb : Below W.heap.size W W') : ∀ {ts : List TypeId} {vs : List Value} {ds : List (DataW H)} {p : List MemPlace} {shs : List (Bool × List Sh)}, shAll P ts = some shs →
    DataW.TrodAll enc P W 0 (fun _ => true) true ts vs ds p → DataW.TrodAll enc P W' 0 (fun b => decide (b < W.heap.size)) true ts vs ds p
  | [], _, _, _, _, _, h => by
    obtain ⟨rfl, rfl, rfl⟩ := trodAll_nil h
    exact trodAll_mk0
  | t :: ts, _, _, _, _, hs, h => by
    have hlt := h.lt
    obtain ⟨v, vs1, d, ds1, a, b, rfl, rfl, rfl, h1, h2⟩ := trodAll_cons h
    simp only [shAll, Option.bind_eq_some_iff] at hs
    obtain ⟨s, _, hs⟩ := hs
    split at hs
    · rename_i hr
      rw [Option.map_eq_some_iff] at hs
      obtain ⟨r, hr', _⟩ := hs
      exact ⟨a, b, Below.trod hl hr.1 hr.2 h1 hb (fun x hx => hlt x (by simp [hx])), below_all hl hb hr' h2, rfl⟩
    · cases hs
theorem args_rep {Γ : Cx} (hΓ : Γ.I = fun b => b < w.heap.size) : ∀ {ts : List TypeId} {vs : List Value} {ds : List (DataW H)} {p : List MemPlace} {shs : List (Bool × List Sh)}, shAll P ts = some shs →
    DataW.TrodAll enc P w 0 (fun _ => true) true ts vs ds p → (∀ (j : Nat) t v, ts[j]? = some t → vs[j]? = some v → Value.okWide P w .any base t v) →
    ∃ args : List V, ArgOk shs args ∧ vs.length = args.length ∧ ∀ (i : Nat) v u, args[i]? = some v → vs[i]? = some u → RepV Γ w v u
  | [], _, _, _, _, hs, h, _ => by
    obtain ⟨rfl, rfl, rfl⟩ := trodAll_nil h
    simp only [shAll, Option.some.injEq] at hs
    subst hs
    exact ⟨[], trivial, rfl, fun i v u h => by simp at h⟩
  | t :: ts, _, _, _, _, hs, h, hv => by
    obtain ⟨v, vs1, d, ds1, a, b, rfl, rfl, rfl, h1, h2⟩ := trodAll_cons h
    simp only [shAll, Option.bind_eq_some_iff] at hs
    obtain ⟨s, hs1, hs⟩ := hs
    split at hs
    · rename_i hr
      rw [Option.map_eq_some_iff] at hs
      obtain ⟨r, hr', rfl⟩ := hs
      obtain ⟨args, q1, q2, q3⟩ := args_rep hΓ hr' h2 (fun j t' v' hj hj' => hv (j + 1) t' v' (by simpa using hj) (by simpa using hj'))
      obtain ⟨fuel, hx⟩ := h1
      obtain ⟨es, e1, e2⟩ := trod_reps 20 t s fuel _ _ hs1 hx
      have hok := hv 0 t v rfl rfl
      have hcons : ∀ x : V, RepV Γ w x v → ∀ (i : Nat) (y : V) (u : Value), (x :: args)[i]? = some y → (v :: vs1)[i]? = some u → RepV Γ w y u := fun x hx i y u hy hu => by
        cases i with
        | zero => simp at hy hu; subst hy; subst hu; exact hx
        | succ i => exact q3 i y u (by simpa using hy) (by simpa using hu)
      cases hb : (match P.underlying t with | some (.struct _) | some (.array _ _) => true | _ => false) with
      | true =>
        obtain ⟨cs, rfl⟩ := okWide_agg hok hb
        refine ⟨.agg (es.map .d) :: args, ⟨⟨es, e1, .inl ⟨rfl, rfl⟩⟩, q1⟩, by simp [q2], hcons _ ?_⟩
        have e3 : cs.toList.length = es.length := e2.1
        refine .agg _ _ (by simpa using e3) (fun i c u hc hu => ?_)
        simp only [List.getElem?_map, Option.map_eq_some_iff] at hc
        obtain ⟨dd, hd, rfl⟩ := hc
        show RepD Γ.I w dd u
        rw [hΓ]
        exact e2.2 i dd u hd (by show cs.toList[i]? = some u; simpa using hu)
      | false =>
        have hone : v.cells.toList = [v] ∨ ∃ cs, v = .agg cs := by
          cases v <;> first | exact .inl rfl | exact .inr ⟨_, rfl⟩
        have hcell : Cell.okWide P w .any base t v := by
          unfold Value.okWide at hok
          split at hok
          · rename_i hu; rw [hu] at hb; cases hb
          · rename_i hu; rw [hu] at hb; cases hb
          · exact hok
        have hsl : s.length = 1 := by
          unfold shOf at hs1
          split at hs1
          · cases hs1; rfl
          · cases hs1; rfl
          · cases hs1; rfl
          · rename_i hu; rw [hu] at hb; cases hb
          · rename_i hu; rw [hu] at hb; cases hb
          · rw [Option.bind_eq_some_iff] at hs1
            obtain ⟨a, _, hs1⟩ := hs1
            split at hs1
            · cases hs1; rfl
            · cases hs1
          · cases hs1
        obtain ⟨dd, rfl⟩ : ∃ dd, es = [dd] := by
          have := e1.length
          rw [hsl] at this
          exact List.length_eq_one_iff.1 this
        refine ⟨.c (.d dd) :: args, ⟨⟨[dd], e1, .inr ⟨rfl, dd, rfl, rfl⟩⟩, q1⟩, by simp [q2], hcons _ ?_⟩
        have hvc : v.cells.toList = [v] := by
          rcases hone with h | ⟨cs, rfl⟩
          · exact h
          · exfalso
            unfold shOf at hs1
            split at hs1 <;> rename_i hu <;> first | (simp [Cell.okWide, Cell.ok, hu] at hcell; done) | (rw [hu] at hb; cases hb) | cases hs1
        refine .c _ _ ?_
        show RepD Γ.I w dd v
        rw [hΓ]
        exact e2.2 0 dd v rfl (by rw [hvc]; rfl)
    · cases hs
theorem storeOk_nil {Γ : Cx} (h : ∀ k, Γ.I k → k < w.heap.size) : StoreOk Γ w [] :=
  ⟨h, fun id e hg => by simp [get] at hg, fun i j k hi => by
    rcases hi with ⟨_, h⟩ | ⟨_, _, _, _, h, _⟩ | ⟨_, _, _, _, h⟩ | ⟨_, _, h⟩ <;> simp [get] at h⟩
theorem not_live_nil {Γ : Cx} {k : Nat} : ¬ Live Γ [] k := fun ⟨_, hi, _⟩ => by
  rcases hi with ⟨_, h⟩ | ⟨_, _, _, _, h, _⟩ | ⟨_, _, _, _, h⟩ | ⟨_, _, h⟩ <;> simp [get] at h
/-- A law from its contract. -/
theorem law_calls {f : FuncId} {F : Func} {s : ChangeSpec} {shs : List (Bool × List Sh)} {tb : TypeId} (hl : laidOutB P = true) (hs : shAll P F.params.toList = some shs) (hv : s.vars = []) (hfn : ∀ ds : List (DataW H), ds.length = F.params.size → s.fn H ds = { results := [.lit (.bool true)], args := ds })
    (hr : F.resultTypes = #[tb]) (htb : P.underlying tb = some .bool) (hp : ∀ args, ArgOk shs args → PFD P f args (vbl true)) (W : World) (base : Nat) (args : Array Value) (ds gs : List (DataW H)) (before : List MemPlace)
    (hval : ∀ (j : Nat) t v, F.params[j]? = some t → args[j]? = some v → Value.okWide P W .any base t v) (hW : DataW.Whole enc P F.params.toList s.vars false W args.toList ds gs before) :
    Calls P f args W fun e W' => ∃ v, e = .returned v ∧ s.post enc P F false true false false W args v W' := by
  have hW' := hW
  obtain ⟨p, q, hA, hV, rfl, hfz, hnd⟩ := hW
  rw [hv] at hV
  obtain ⟨rfl, rfl⟩ := trodVars_none hV
  let Γ : Cx := ⟨fun b => b < W.heap.size, fun _ => none, fun _ => none⟩
  obtain ⟨avs, h1, h2, h3⟩ := args_rep (Γ := Γ) rfl hs hA (fun j t v hj hj' => hval j t v (by simpa using hj) (by simpa using hj'))
  refine ((hp avs h1).h.2.2 Γ W args (storeOk_nil fun k hk => hk) (fun _ _ _ => rfl) ⟨by simpa using h2, fun i v u hv hu => h3 i v u hv (by simpa using hu)⟩).mono fun e W' hq => ?_
  obtain ⟨u, Γ', rfl, hu, _, _, _, hE⟩ := hq
  have hu : u = .bool true := by
    cases hu with
    | c _ _ h => cases (show RepD Γ'.I W' (.v (.bool true)) u from h); rfl
  subst hu
  have hb : Below W.heap.size W W' := ⟨hE.os, hE.tape, hE.output, hE.size, fun k hk => hE.keep k hk not_live_nil⟩
  have hlen : ds.length = F.params.size := by
    have : ∀ {ts : List TypeId} {vs : List Value} {ds : List (DataW H)} {p : List MemPlace}, DataW.TrodAll enc P W 0 (fun _ => true) true ts vs ds p → ds.length = ts.length := by
      intro ts
      induction ts with
      | nil => intro vs ds p h; obtain ⟨rfl, rfl, rfl⟩ := trodAll_nil h; rfl
      | cons t ts ih =>
        intro vs ds p h
        obtain ⟨v, vs1, d, ds1, a, b, rfl, rfl, rfl, h1, h2⟩ := trodAll_cons h
        simp [ih h2]
    simpa using this hA
  refine ⟨_, rfl, ds, [], p ++ [], [], p, [], hW', ?_, ?_, ?_, World.keptBut_mono (fun x hx => ⟨hx, .inr (.inl (by simpa using hx))⟩) (hb.frame _), fun h => by cases h⟩
  · rw [List.append_nil, hfn ds hlen, hr]
    exact trodAll_mk1 (shut_bool htb true)
  · rw [List.append_nil, hfn ds hlen]
    exact below_all hl hb hs hA
  · rw [List.append_nil, hfn ds hlen, hv]
    exact rfl
end
end Go.Pw

set_option linter.unusedVariables false
namespace Go.Pw
open Go Go.RowKit
theorem PFD.ri {P : Program} {f : FuncId} {args args' : List V} {v : V} (h : PFD P f args' v) (hr : RIs args args') : PFD P f args v :=
  ⟨h.h.1, h.h.2.1, fun Γ w us h1 h2 h3 => h.h.2.2 Γ w us h1 h2 (hr.rep h3)⟩
theorem okDs_cons {s : Sh} {ss : List Sh} {ds : List D} (h : OkDs (s :: ss) ds) : ∃ d es, ds = d :: es ∧ OkD s d ∧ OkDs ss es := by
  cases ds with
  | nil => unfold OkDs at h; exact h.elim
  | cons d es => unfold OkDs at h; exact ⟨d, es, rfl, h.1, h.2⟩
theorem okDs_nil {ds : List D} (h : OkDs [] ds) : ds = [] := by
  cases ds with
  | nil => rfl
  | cons d es => unfold OkDs at h; exact h.elim
theorem okD_int {k : IntKind} {d : D} (h : OkD (.int k) d) : ∃ n, d = .v (.int k n) ∧ k.has n = true := by unfold OkD at h; exact h
theorem okD_str {d : D} (h : OkD .str d) : ∃ s : ByteArray, d = .v (.string s) ∧ s.size ≤ maxLen := by unfold OkD at h; exact h
theorem okD_sl {row : List Sh} {d : D} (h : OkD (.sl row) d) : ∃ n f, d = .sl row.length n f ∧ n ≤ maxLen ∧ ∀ i, i < n → OkDs row (f i) := by unfold OkD at h; exact h
abbrev i64 (n : Int) : Prop := IntKind.i64.has n = true
theorem row1 {ds : List D} (h : OkDs [.int .i64] ds) : ∃ a : Int, ds = r1 a ∧ i64 a := by
  obtain ⟨d, es, rfl, h1, h2⟩ := okDs_cons h
  obtain ⟨n, rfl, hn⟩ := okD_int h1
  rw [okDs_nil h2]
  exact ⟨n, rfl, hn⟩
theorem row3 {ds : List D} (h : OkDs [.int .i64, .int .i64, .int .i64] ds) : ∃ a : Int × Int × Int, ds = r3 a ∧ i64 a.1 ∧ i64 a.2.1 ∧ i64 a.2.2 := by
  obtain ⟨d, es, rfl, h1, h2⟩ := okDs_cons h
  obtain ⟨e, fs, rfl, h3, h4⟩ := okDs_cons h2
  obtain ⟨g, gs, rfl, h5, h6⟩ := okDs_cons h4
  obtain ⟨n, rfl, hn⟩ := okD_int h1
  obtain ⟨m, rfl, hm⟩ := okD_int h3
  obtain ⟨o, rfl, ho⟩ := okD_int h5
  rw [okDs_nil h6]
  exact ⟨(n, m, o), rfl, hn, hm, ho⟩
/-- What an argument of a shape is. -/
abbrev Arg (b : Bool) (sh : List Sh) (v : V) : Prop := ∃ ds, OkDs sh ds ∧ (b = true ∧ v = .agg (ds.map .d) ∨ b = false ∧ ∃ d, ds = [d] ∧ v = .c (.d d))
theorem arg_agg {sh : List Sh} {v : V} (h : Arg true sh v) : ∃ ds, v = .agg (ds.map .d) ∧ OkDs sh ds := by
  obtain ⟨ds, h1, ⟨_, rfl⟩ | ⟨h2, _⟩⟩ := h
  · exact ⟨ds, rfl, h1⟩
  · cases h2
end Go.Pw

namespace Go.Pw
theorem Fork.yes {b : Bool} {p q : Prop} (hb : b = true) (hp : p) : Fork b p q := ⟨fun _ => hp, fun h => absurd (hb.symm.trans h) (by decide)⟩
theorem Fork.no {b : Bool} {p q : Prop} (hb : b = false) (hq : q) : Fork b p q := ⟨fun h => absurd (hb.symm.trans h) (by decide), fun _ => hq⟩
theorem nd_t {x : Prop} [Decidable x] (h : ¬ x) : (!decide x) = true := by rw [decide_eq_false h]; rfl
theorem nd_f {x : Prop} [Decidable x] (h : x) : (!decide x) = false := by rw [decide_eq_true h]; rfl
end Go.Pw

set_option linter.unusedVariables false
namespace Go.Pw
open Go Go.RowKit
theorem ob {p : Prop} (h : p := by first | trivial | omega | ((try simp only [R64, E53, true_and, and_true, Int.toNat_natCast, List.length_cons, List.length_nil]); omega)) : p := h
theorem tt1 {b : Bool} (h : b = true := by first | exact rfl | (refine decide_eq_true ?_; omega) | (refine nd_t ?_; omega) | (simp only [decide_true, Bool.and_self, Bool.not_false] <;> fail)) : b = true := h
theorem ff1 {b : Bool} (h : b = false := by first | exact rfl | (refine decide_eq_false ?_; omega) | (refine nd_f ?_; omega) | (simp only [decide_true, Bool.and_self, Bool.not_true] <;> fail)) : b = false := h
theorem Owe.o {p q : Prop} (r : q) (l : p := by exact ob) : Owe p q := ⟨l, r⟩
theorem Owe.same {p q : Prop} (h : Owe p q) : Owe p q := h
theorem fkD {x p q : Prop} [h : Decidable x] (h1 : x → p) (h2 : ¬ x → q) : Fork (decide x) p q := Fork.dec h1 h2
theorem fkN {x p q : Prop} [h : Decidable x] (h1 : ¬ x → p) (h2 : x → q) : Fork (!decide x) p q := Fork.ndec h1 h2
theorem fkM {b : Bool} {p q : Prop} (h1 : b = true → p) (h2 : b = false → q) : Fork b p q := ⟨h1, h2⟩
theorem fkY {b : Bool} {p q : Prop} (hp : p) (hb : b = true := by exact tt1) : Fork b p q := Fork.yes hb hp
theorem fkF {b : Bool} {p q : Prop} (hq : q) (hb : b = false := by exact ff1) : Fork b p q := Fork.no hb hq
inductive QI where
  | v (x y : V)
  | c (x y : C)
  | e (x y : Ent)
  | vs (xs ys : List V)
  | cs (xs ys : List C)
  | en (env e0 : List (Nat × V))
  | eq (π : Nat → Nat) (env e0 : List (Nat × V))
  | st (π : Nat → Nat) (σ σ0 : Store)
def cloCB : C → Bool
  | .d _ | .tru | .fls | .rp _ | .z | .fn _ [] | .fl _ | .cx _ _ | .cl _ _ _ | .fnR _ _ | .fnB _ _ => true
  | _ => false
def cloCsB : List C → Bool
  | [] => true
  | c :: cs => cloCB c && cloCsB cs
def cloB : V → Bool
  | .c x => cloCB x
  | .agg cs => cloCsB cs
  | .unk => true
  | .tup _ => false
theorem cloCB_ok {c : C} (h : cloCB c = true) : cloC c := by
  unfold cloCB at h
  split at h <;> first | trivial | rfl | cases h
theorem cloCsB_ok : ∀ {cs : List C}, cloCsB cs = true → cloCs cs
  | [], _ => trivial
  | c :: cs, h => by
    simp only [cloCsB, Bool.and_eq_true] at h
    exact ⟨cloCB_ok h.1, cloCsB_ok h.2⟩
theorem cloB_ok {v : V} (h : cloB v = true) : clo v := by
  cases v with
  | c x => exact cloCB_ok h
  | agg cs => exact cloCsB_ok h
  | unk => trivial
  | tup => cases h
def QI.so : QI → Prop
  | .v x y => VEq x y
  | .c x y => CEq x y
  | .e x y => EEq x y
  | .vs xs ys => VEqs xs ys
  | .cs xs ys => CEqs xs ys
  | .en env e0 => envIs env e0
  | .eq π env e0 => envEq π env e0
  | .st π σ σ0 => stoEq π σ σ0
/-- One step of agreement. -/
inductive QQ : QI → Prop
  | vsn : QQ (.vs [] [])
  | vsc {x y : V} {xs ys : List V} (h : QI.so (.v x y)) (t : QI.so (.vs xs ys)) : QQ (.vs (x :: xs) (y :: ys))
  | csn : QQ (.cs [] [])
  | csc {x y : C} {xs ys : List C} (h : QI.so (.c x y)) (t : QI.so (.cs xs ys)) : QQ (.cs (x :: xs) (y :: ys))
  | enn {env : List (Nat × V)} : QQ (.en env [])
  | enc {env e0 : List (Nat × V)} {t : Nat} {v : V} (h : QI.so (.v (lk env t) v)) (c : cloB v = true) (r : QI.so (.en env e0)) : QQ (.en env ((t, v) :: e0))
  | eqn {π : Nat → Nat} {env : List (Nat × V)} : QQ (.eq π env [])
  | eqc {π : Nat → Nat} {env e0 : List (Nat × V)} {t : Nat} {v : V} (h : QI.so (.v (lk env t) (rnV π v))) (r : QI.so (.eq π env e0)) : QQ (.eq π env ((t, v) :: e0))
  | stn {π : Nat → Nat} {σ : Store} : QQ (.st π σ [])
  | stc {π : Nat → Nat} {σ σ0 : Store} {id : Nat} {x y : Ent} (g : get σ (π id) = some y) (h : QI.so (.e y (rnE π x))) (r : QI.so (.st π σ σ0)) : QQ (.st π σ ((id, x) :: σ0))
  | vr (x : V) : QQ (.v x x)
  | er (x : Ent) : QQ (.e x x)
  | cr (x : C) : QQ (.c x x)
  | tru {b : Bool} (h : b = true) : QQ (.v (.c .tru) (vbl b))
  | fls {b : Bool} (h : b = false) : QQ (.v (.c .fls) (vbl b))
  | bool {a b : Bool} (h : a = b) : QQ (.v (vbl a) (vbl b))
  | int {k : IntKind} {a b : Int} (h : a = b) : QQ (.v (vi k a) (vi k b))
  | nil {s : Nat} {g : Nat → List D} : QQ (.v (.c (.d (.v (.slice none 0 0)))) (.c (.d (.sl s 0 g))))
  | z {s : Nat} {g : Nat → List D} : QQ (.v (.c .z) (.c (.d (.sl s 0 g))))
  | li1 {a0 : Int} : QQ (.v (.c (.d (.sl 1 [[dI a0]].length fun i => [[dI a0]].getD i []))) (.c (ints [a0])))
  | li2 {a0 a1 : Int} : QQ (.v (.c (.d (.sl 1 [[dI a0], [dI a1]].length fun i => [[dI a0], [dI a1]].getD i []))) (.c (ints [a0, a1])))
  | li3 {a0 a1 a2 : Int} : QQ (.v (.c (.d (.sl 1 [[dI a0], [dI a1], [dI a2]].length fun i => [[dI a0], [dI a1], [dI a2]].getD i []))) (.c (ints [a0, a1, a2])))
  | li4 {a0 a1 a2 a3 : Int} : QQ (.v (.c (.d (.sl 1 [[dI a0], [dI a1], [dI a2], [dI a3]].length fun i => [[dI a0], [dI a1], [dI a2], [dI a3]].getD i []))) (.c (ints [a0, a1, a2, a3])))
  | lp1 {a0 b0 : Int} : QQ (.v (.c (.d (.sl 2 [[dI a0, dI b0]].length fun i => [[dI a0, dI b0]].getD i []))) (.c (prs [(a0, b0)])))
  | lp2 {a0 b0 a1 b1 : Int} : QQ (.v (.c (.d (.sl 2 [[dI a0, dI b0], [dI a1, dI b1]].length fun i => [[dI a0, dI b0], [dI a1, dI b1]].getD i []))) (.c (prs [(a0, b0), (a1, b1)])))
  | lp3 {a0 b0 a1 b1 a2 b2 : Int} : QQ (.v (.c (.d (.sl 2 [[dI a0, dI b0], [dI a1, dI b1], [dI a2, dI b2]].length fun i => [[dI a0, dI b0], [dI a1, dI b1], [dI a2, dI b2]].getD i []))) (.c (prs [(a0, b0), (a1, b1), (a2, b2)])))
  | lp4 {a0 b0 a1 b1 a2 b2 a3 b3 : Int} : QQ (.v (.c (.d (.sl 2 [[dI a0, dI b0], [dI a1, dI b1], [dI a2, dI b2], [dI a3, dI b3]].length fun i => [[dI a0, dI b0], [dI a1, dI b1], [dI a2, dI b2], [dI a3, dI b3]].getD i []))) (.c (prs [(a0, b0), (a1, b1), (a2, b2), (a3, b3)])))
  | lt1 {a0 b0 c0 : Int} : QQ (.v (.c (.d (.sl 3 [[dI a0, dI b0, dI c0]].length fun i => [[dI a0, dI b0, dI c0]].getD i []))) (.c (trs [(a0, b0, c0)])))
  | lt2 {a0 b0 c0 a1 b1 c1 : Int} : QQ (.v (.c (.d (.sl 3 [[dI a0, dI b0, dI c0], [dI a1, dI b1, dI c1]].length fun i => [[dI a0, dI b0, dI c0], [dI a1, dI b1, dI c1]].getD i []))) (.c (trs [(a0, b0, c0), (a1, b1, c1)])))
  | lt3 {a0 b0 c0 a1 b1 c1 a2 b2 c2 : Int} : QQ (.v (.c (.d (.sl 3 [[dI a0, dI b0, dI c0], [dI a1, dI b1, dI c1], [dI a2, dI b2, dI c2]].length fun i => [[dI a0, dI b0, dI c0], [dI a1, dI b1, dI c1], [dI a2, dI b2, dI c2]].getD i []))) (.c (trs [(a0, b0, c0), (a1, b1, c1), (a2, b2, c2)])))
  | ms {id n m : Nat} (h : n = m) : QQ (.v (.c (.ms id n)) (.c (.ms id m)))
  | sll {α : Type} {s : Nat} {row : α → List D} {d : α} {l m : List α} (h : l = m) : QQ (.v (.c (slv s row d l)) (.c (slv s row d m)))
  | aggs {xs ys : List C} (h : QI.so (.cs xs ys)) : QQ (.v (.agg xs) (.agg ys))
  | boxs {xs ys : List C} (h : QI.so (.cs xs ys)) : QQ (.e (.box xs) (.box ys))
  | app1 {e : TypeId} {l l' : List Int} {a : Int} (hl : l' = l ++ [a]) : QQ (.e (.row e 1 (l.length + 1) (fun i => if i < l.length then r1 (l.getD i 0) else ([[dI a]].getD (i - l.length) [])) false) (rowv e 1 r1 0 l'))
  | app2 {e : TypeId} {l l' : List (Int × Int)} {a b : Int} (hl : l' = l ++ [(a, b)]) : QQ (.e (.row e 2 (l.length + 1) (fun i => if i < l.length then r2 (l.getD i (0, 0)) else ([[dI a, dI b]].getD (i - l.length) [])) false) (rowv e 2 r2 (0, 0) l'))
  | app3 {e : TypeId} {l l' : List (Int × Int × Int)} {a b c : Int} (hl : l' = l ++ [(a, b, c)]) : QQ (.e (.row e 3 (l.length + 1) (fun i => if i < l.length then r3 (l.getD i (0, 0, 0)) else ([[dI a, dI b, dI c]].getD (i - l.length) [])) false) (rowv e 3 r3 (0, 0, 0) l'))
  | cms {id n m : Nat} (h : n = m) : QQ (.c (.ms id n) (.ms id m))
  | cint {k : IntKind} {a b : Int} (h : a = b) : QQ (.c (.d (.v (.int k a))) (.d (.v (.int k b))))
  | csll {α : Type} {s : Nat} {row : α → List D} {d : α} {l m : List α} (h : l = m) : QQ (.c (slv s row d l) (slv s row d m))
  | cnil {s : Nat} {g : Nat → List D} : QQ (.c (.d (.v (.slice none 0 0))) (.d (.sl s 0 g)))
  | cz {s : Nat} {g : Nat → List D} : QQ (.c .z (.d (.sl s 0 g)))
  | ctru {b : Bool} (h : b = true) : QQ (.c .tru (.d (.v (.bool b))))
  | cfls {b : Bool} (h : b = false) : QQ (.c .fls (.d (.v (.bool b))))
  | cbool {a b : Bool} (h : a = b) : QQ (.c (.d (.v (.bool a))) (.d (.v (.bool b))))
  | lit {α : Type} {s : Nat} {row : α → List D} {d : α} {l : List α} {rs : List (List D)} (h : rs = l.map row) : QQ (.v (.c (.d (.sl s rs.length fun i => rs.getD i []))) (.c (slv s row d l)))
  | clit {α : Type} {s : Nat} {row : α → List D} {d : α} {l : List α} {rs : List (List D)} (h : rs = l.map row) : QQ (.c (.d (.sl s rs.length fun i => rs.getD i [])) (slv s row d l))
  | fl {a b : Int} (h : a = b) : QQ (.v (.c (.fl a)) (.c (.fl b)))
  | cx {a b c d : Int} (h : a = c) (h2 : b = d) : QQ (.v (.c (.cx a b)) (.c (.cx c d)))
  | mp {m : Nat} {es es' : List (Int × Int)} (h : es = es') : QQ (.e (.mp m es) (.mp m es'))
  | drp {α : Type} {s k : Nat} {row : α → List D} {d : α} {l m : List α} (h : m = l.drop k) : QQ (.v (.c (.d (.sl s (l.length - k) fun i => row (l.getD (k + i) d)))) (.c (slv s row d m)))
  | tak {α : Type} {s k : Nat} {row : α → List D} {d : α} {l m : List α} (h : k ≤ l.length ∧ m = l.take k) : QQ (.v (.c (.d (.sl s k fun i => row (l.getD i d)))) (.c (slv s row d m)))
  | cut {α : Type} {s k j : Nat} {row : α → List D} {d : α} {l m : List α} (h : k ≤ j ∧ j ≤ l.length ∧ m = (l.take j).drop k) : QQ (.v (.c (.d (.sl s (j - k) fun i => row (l.getD (k + i) d)))) (.c (slv s row d m)))
  | dapp {α : Type} {s : Nat} {row : α → List D} {d : α} {l l' : List α} {r : List D} (h : ∃ x, r = row x ∧ l' = l ++ [x]) : QQ (.v (.c (.d (.sl s (l.length + 1) fun i => if i < l.length then row (l.getD i d) else ([r].getD (i - l.length) [])))) (.c (slv s row d l')))
  | appg {α : Type} {e : TypeId} {s : Nat} {row : α → List D} {d : α} {l l' : List α} {r : List D} (h : ∃ x, r = row x ∧ l' = l ++ [x]) : QQ (.e (.row e s (l.length + 1) (fun i => if i < l.length then row (l.getD i d) else ([r].getD (i - l.length) [])) false) (rowv e s row d l'))
  | apps {α : Type} {e : TypeId} {s : Nat} {row : α → List D} {d : α} {l m l' : List α} (h : l' = l ++ m) : QQ (.e (.row e s (l.length + m.length) (fun i => if i < l.length then row (l.getD i d) else row (m.getD (i - l.length) d)) false) (rowv e s row d l'))
  | setg {α : Type} {e : TypeId} {s i j : Nat} {row : α → List D} {d : α} {l l' : List α} {ds : List D} (h : ∃ x, putD (row (l.getD i d)) j ds = row x ∧ l' = l.set i x) : QQ (.e (.row e s l.length (setRw (fun k => row (l.getD k d)) i j ds) false) (rowv e s row d l'))
  | mk {α : Type} {e : TypeId} {s n : Nat} {row : α → List D} {d : α} {l : List α} {r : List D} (h : ∃ x, r = row x ∧ l = List.replicate n x) : QQ (.e (.row e s n (fun _ => r) false) (rowv e s row d l))
  | elit {α : Type} {e : TypeId} {s : Nat} {row : α → List D} {d : α} {l : List α} {rs : List (List D)} (h : rs = l.map row) : QQ (.e (.row e s rs.length (fun i => rs.getD i []) false) (rowv e s row d l))
  | rll {α : Type} {e : TypeId} {s : Nat} {row : α → List D} {d : α} {l m : List α} {b : Bool} (h : l = m) : QQ (.e (.row e s l.length (fun i => row (l.getD i d)) b) (.row e s m.length (fun i => row (m.getD i d)) b))
theorem setRw_eq {α : Type} {e : TypeId} {s : Nat} {row : α → List D} {d : α} {l l' : List α} {i j : Nat} {ds : List D} (x : α) (h : putD (row (l.getD i d)) j ds = row x) (hl : l' = l.set i x) : EEq (.row e s l.length (setRw (fun k => row (l.getD k d)) i j ds) false) (rowv e s row d l') := by
  subst hl
  refine EEq.rowl (by simp) fun k hk => ?_
  unfold Pw.setRw
  rw [List.getD_eq_getElem?_getD (l := l.set i x), List.getElem?_set]
  split
  · rename_i hb
    have hb := Nat.eq_of_beq_eq_true hb
    subst hb
    rw [h, if_pos rfl, if_pos hk]; rfl
  · rename_i hb
    have hb : ¬ i = k := fun h => by subst h; rw [Nat.beq_refl] at hb; cases hb
    rw [if_neg hb]; show row (l.getD k d) = _; rw [List.getD_eq_getElem?_getD]
theorem getD_drop' {α : Type} {d : α} {l : List α} {k i : Nat} : (l.drop k).getD i d = l.getD (k + i) d := by
  simp only [List.getD_eq_getElem?_getD, List.getElem?_drop]
theorem getD_take' {α : Type} {d : α} {l : List α} {k i : Nat} (h : i < k) : (l.take k).getD i d = l.getD i d := by
  simp only [List.getD_eq_getElem?_getD, List.getElem?_take, if_pos h]
theorem lit_eq {α : Type} {s : Nat} {row : α → List D} {d : α} {l : List α} {rs : List (List D)} (h : rs = l.map row) : CEq (.d (.sl s rs.length fun i => rs.getD i [])) (slv s row d l) := by
  subst h
  refine CEq.sl (by simp) fun i hi => ?_
  have hi : i < l.length := by simpa using hi
  rw [List.getD_eq_getElem?_getD, List.getD_eq_getElem?_getD, List.getElem?_map, List.getElem?_eq_getElem hi]
  rfl
theorem QQ.sound {q : QI} (h : QQ q) : q.so := by
  cases h with
  | vsn | csn | enn | eqn | stn => trivial
  | vsc h t => exact ⟨h, t⟩
  | csc h t => exact ⟨h, t⟩
  | enc h c r => exact ⟨⟨h, cloB_ok c⟩, r⟩
  | eqc h r => exact ⟨h, r⟩
  | stc g h r => exact ⟨by rw [g]; exact h, r⟩
  | vr x => exact VEq.refl x
  | er x => exact EEq.same x
  | cr x => exact CEq.refl x
  | tru h => exact VEq.tru h
  | fls h => exact VEq.fls h
  | bool h => exact VEq.bool h
  | int h => exact VEq.int h
  | nil => exact VEq.nil
  | z => exact .c _ _ (.z _ _)
  | li1 => exact VEq.li_1
  | li2 => exact VEq.li_2
  | li3 => exact VEq.li_3
  | li4 => exact VEq.li_4
  | lp1 => exact VEq.lp_1
  | lp2 => exact VEq.lp_2
  | lp3 => exact VEq.lp_3
  | lp4 => exact VEq.lp_4
  | lt1 => exact VEq.lt_1
  | lt2 => exact VEq.lt_2
  | lt3 => exact VEq.lt_3
  | ms h => exact VEq.ms h
  | sll h => exact VEq.sll h
  | aggs h => exact VEq.aggs h
  | boxs h => exact EEq.boxs h
  | app1 h => exact EEq.app1 h
  | app2 h => exact EEq.app2 h
  | app3 h => exact EEq.app3 h
  | cms h => exact CEq.ms h
  | cint h => exact CEq.int h
  | csll h => exact CEq.sll h
  | cnil => exact CEq.nil
  | cz => exact .z _ _
  | ctru h => subst h; exact .tru
  | cfls h => subst h; exact .fls
  | cbool h => subst h; exact .refl _
  | lit h => exact .c _ _ (lit_eq h)
  | clit h => exact lit_eq h
  | fl h => subst h; exact .refl _
  | cx h h2 => subst h; subst h2; exact .refl _
  | mp h => subst h; exact .mp _ _
  | drp h => subst h; exact .c _ _ (CEq.sl (by simp) fun i hi => by rw [getD_drop'])
  | tak h => obtain ⟨h1, rfl⟩ := h; exact .c _ _ (CEq.sl (by simp; omega) fun i hi => by rw [getD_take' hi])
  | cut h => obtain ⟨h1, h2, rfl⟩ := h; exact .c _ _ (CEq.sl (by simp; omega) fun i hi => by rw [getD_drop', getD_take' (by omega)])
  | dapp h => obtain ⟨x, h1, rfl⟩ := h; exact .c _ _ (CEq.sl (by simp) fun i hi => row_app h1 i hi)
  | appg h => obtain ⟨x, h1, h2⟩ := h; exact EEq.app x h1 h2
  | apps h =>
    subst h
    refine EEq.rowl (by simp) fun i hi => ?_
    split
    · rename_i hlt; rw [List.getD_eq_getElem?_getD, List.getD_eq_getElem?_getD, List.getElem?_append_left hlt]
    · rename_i hlt; rw [List.getD_eq_getElem?_getD, List.getD_eq_getElem?_getD, List.getElem?_append_right (by omega)]
  | setg h => obtain ⟨x, h1, h2⟩ := h; exact setRw_eq x h1 h2
  | mk h =>
    obtain ⟨x, rfl, rfl⟩ := h
    refine EEq.rowl (by simp) fun i hi => ?_
    rw [List.getD_eq_getElem?_getD, List.getElem?_replicate, if_pos hi]; rfl
  | elit h =>
    subst h
    refine EEq.rowl (by simp) fun i hi => ?_
    rw [List.length_map] at hi
    rw [List.getD_eq_getElem?_getD, List.getD_eq_getElem?_getD, List.getElem?_map, List.getElem?_eq_getElem hi]
    rfl
  | rll h => subst h; exact EEq.same _
theorem qS {q : QI} (h : QQ q) : q.so := h.sound
theorem qv {x y : V} (h : QI.so (.v x y)) : VEq x y := h
theorem qc {x y : C} (h : QI.so (.c x y)) : CEq x y := h
theorem qe {x y : Ent} (h : QI.so (.e x y)) : EEq x y := h
theorem qvs {x y : List V} (h : QI.so (.vs x y)) : VEqs x y := h
theorem qcs {x y : List C} (h : QI.so (.cs x y)) : CEqs x y := h
theorem qen {x y : List (Nat × V)} (h : QI.so (.en x y)) : envIs x y := h
theorem qeq {π : Nat → Nat} {x y : List (Nat × V)} (h : QI.so (.eq π x y)) : envEq π x y := h
theorem qst {π : Nat → Nat} {x y : Store} (h : QI.so (.st π x y)) : stoEq π x y := h
theorem qis {base : Nat} {st st0 : St} {l : List Nat} (h : QI.so (.eq (nmAt base l) st.env st0.env)) (h2 : QI.so (.st (nmAt base l) st.σ st0.σ)) (nm : (nmOk base st0.nx l && envLtB st0.nx st0.env && stoLtB st0.nx st0.σ) = true := by exact rfl) : Is base st st0 l := ⟨nm, h, h2⟩
section
variable {P : Program} [m : Mix P] {N base : Nat}
theorem rqK {nx nx' : Nat} {rl : List RL} {vs vs0 : List V} {e : Exit} {st : St} (hres : resAll st.env st.σ rl = some vs0) (hv : QI.so (.vs vs0 vs)) (he : e = .normal ∨ e = .ret := by first | exact .inr rfl | exact .inl rfl) (hle : nx ≤ nx' := by exact Nat.le_refl _) (hc : cloL vs := by simp only [cloL, clo, cloC, cloCs, and_self]) : RetQ nx rl vs [] nx' e st :=
  RetQ.plain hle he hres hc hv
theorem rqF {nx nx' : Nat} {rl : List RL} {vs vs0 : List V} {e : Exit} {env : List (Nat × V)} {σ : Store} {nx1 : Nat} (t : Nat) (id : Nat) {n : Nat} {ty : TypeId} {s m : Nat} {f : Nat → List D} {fz : Bool} (hres : resAll env σ rl = some vs0) (h : lk (argEnv 0 vs0) t = .c (.ms id n)) (hg : get σ id = some (.row ty s m f fz))
    (hv : QI.so (.en ((t, .c (.d (.sl s n f))) :: argEnv 0 vs0) (argEnv 0 vs))) (hl : Nat.beq vs0.length vs.length = true := by exact rfl) (hle : Nat.ble nx nx' = true := by exact rfl) (hn : n ≤ m := by exact Nat.le_refl _) (he : e = .normal ∨ e = .ret := by first | exact .inr rfl | exact .inl rfl) : RetQ nx rl vs [] nx' e ⟨env, σ, nx1⟩ :=
  RetQ.of he hres hl ((Mv.freeze t id h hg hn).trans (Mv.plain hle hv))
theorem pi1 {f : FuncId} {lc : LCode} {rl : List RL} {args : List V} {v : V} (hf : FnOk P f N lc rl) (h : wp P N 0 lc ⟨argEnv 0 args, [], 0⟩ (RetQ 0 rl [v] [] 0)) (hN : Nat.ble args.length N = true := by exact rfl) (hc : cloL args := by simp only [cloL, clo, cloC, cloCs, and_self]) : PFD P f args v := PFD.of (vs := [v]) hf hN hc h
theorem pi2 {f : FuncId} {lc : LCode} {rl : List RL} {args : List V} {v v2 : V} (hf : FnOk P f N lc rl) (h : wp P N 0 lc ⟨argEnv 0 args, [], 0⟩ (RetQ 0 rl [v, v2] [] 0)) (hN : Nat.ble args.length N = true := by exact rfl) (hc : cloL args := by simp only [cloL, clo, cloC, cloCs, and_self]) : PFD P f args (.tup [v, v2]) := PFD.of (vs := [v, v2]) hf hN hc h
theorem pi3 {f : FuncId} {lc : LCode} {rl : List RL} {args : List V} {v v2 v3 : V} (hf : FnOk P f N lc rl) (h : wp P N 0 lc ⟨argEnv 0 args, [], 0⟩ (RetQ 0 rl [v, v2, v3] [] 0)) (hN : Nat.ble args.length N = true := by exact rfl) (hc : cloL args := by simp only [cloL, clo, cloC, cloCs, and_self]) : PFD P f args (.tup [v, v2, v3]) := PFD.of (vs := [v, v2, v3]) hf hN hc h
theorem fits {env : List (Nat × V)} {xs : List Operand} {args : List V} (h : Fits env xs args := by first | exact Fits.eq rfl | exact Fits.veq (qvs (by (repeat' first | exact rfl | (refine qS ?_; constructor)) <;> fail))) : Fits env xs args := h
variable {dst : Option Nat} {fop : Operand} {xs : List Operand} {g : Option (Nat × Bool)} {rest : List LIns} {env : List (Nat × V)} {σ : Store} {nx : Nat} {K : St → Prop} {f : FuncId} {args : List V} {v : V} {p : Prop} {M : List Nat} {acc : List (Bool × List Nat)}
theorem A1.oK (hc : PFD P f args v) (hf : evo env fop = .c (.fn f [])) (hg : guardOf env g = .run) (ha : (xs.map (evo env)).map normA = args) (h : putK dst v env fun env' => wpOps P N base rest env' σ nx none K) : OpsL P N base (⟨dst, .call fop xs, g⟩ :: rest) ⟨env, σ, nx⟩ K := Ops.pc hf (Fits.eq ha) hc hg h
theorem A2.oK (hc : p → PFD P f args v) (hf : evo env fop = .c (.fn f [])) (hg : guardOf env g = .run) (ha : (xs.map (evo env)).map normA = args) (h : putK dst v env fun env' => wpOps P N base rest env' σ nx none K) (hp : p := by exact ob) : OpsL P N base (⟨dst, .call fop xs, g⟩ :: rest) ⟨env, σ, nx⟩ K := Ops.pc hf (Fits.eq ha) (hc hp) hg h
theorem A3.oK (hc : PFD P f args v) (hf : evo env fop = .c (.fn f [])) (hg : guardOf env g = .run) (ha : (xs.map (evo env)).map normA = args) (h : putK dst v env fun env' => wpD P N base M rest env' σ nx none ((false, []) :: acc) K) : OpsDL P N base M (⟨dst, .call fop xs, g⟩ :: rest) ⟨env, σ, nx⟩ acc K := OpsD.pc hf (Fits.eq ha) hc hg h
theorem A4.oK (hc : p → PFD P f args v) (hf : evo env fop = .c (.fn f [])) (hg : guardOf env g = .run) (ha : (xs.map (evo env)).map normA = args) (h : putK dst v env fun env' => wpD P N base M rest env' σ nx none ((false, []) :: acc) K) (hp : p := by exact ob) : OpsDL P N base M (⟨dst, .call fop xs, g⟩ :: rest) ⟨env, σ, nx⟩ acc K := OpsD.pc hf (Fits.eq ha) (hc hp) hg h
theorem A1.pK (hc : PFD P f args v) (hf : evo env fop = .c (.fn f [])) (hg : guardOf env g = .run) (h : putK dst v env fun env' => wpOps P N base rest env' σ nx none K) (ha : Fits env xs args := by exact fits) : OpsL P N base (⟨dst, .call fop xs, g⟩ :: rest) ⟨env, σ, nx⟩ K := Ops.pc hf ha hc hg h
theorem A2.pK (hc : p → PFD P f args v) (hf : evo env fop = .c (.fn f [])) (hg : guardOf env g = .run) (h : putK dst v env fun env' => wpOps P N base rest env' σ nx none K) (ha : Fits env xs args := by exact fits) (hp : p := by exact ob) : OpsL P N base (⟨dst, .call fop xs, g⟩ :: rest) ⟨env, σ, nx⟩ K := Ops.pc hf ha (hc hp) hg h
theorem A3.pK (hc : PFD P f args v) (hf : evo env fop = .c (.fn f [])) (hg : guardOf env g = .run) (h : putK dst v env fun env' => wpD P N base M rest env' σ nx none ((false, []) :: acc) K) (ha : Fits env xs args := by exact fits) : OpsDL P N base M (⟨dst, .call fop xs, g⟩ :: rest) ⟨env, σ, nx⟩ acc K := OpsD.pc hf ha hc hg h
theorem A4.pK (hc : p → PFD P f args v) (hf : evo env fop = .c (.fn f [])) (hg : guardOf env g = .run) (h : putK dst v env fun env' => wpD P N base M rest env' σ nx none ((false, []) :: acc) K) (ha : Fits env xs args := by exact fits) (hp : p := by exact ob) : OpsDL P N base M (⟨dst, .call fop xs, g⟩ :: rest) ⟨env, σ, nx⟩ acc K := OpsD.pc hf ha (hc hp) hg h
variable {rows : List (List D)}
theorem RIs.rfl' : ∀ (R : List V), RIs R R
  | [] => .nil
  | _ :: R => .cons (RI.refl _) (RIs.rfl' R)
theorem ris0 {X Y : List V} (h : X.map normA = Y) : RIs X Y := h ▸ ris_norm _
theorem ris1 {x y : V} {R : List V} (h : QI.so (.v x y)) : RIs (x :: R) (y :: R) := .cons (VEq.ri (qv h)) (RIs.rfl' R)
theorem ris2 {x y x2 y2 : V} {R : List V} (h : QI.so (.v x y)) (h2 : QI.so (.v x2 y2)) : RIs (x :: x2 :: R) (y :: y2 :: R) := .cons (VEq.ri (qv h)) (.cons (VEq.ri (qv h2)) (RIs.rfl' R))
theorem fitsR {X args : List V} (h : RIs X args := by first | exact ris0 rfl | (refine ris1 ?_; (repeat' first | exact rfl | (refine qS ?_; constructor)); done) | (refine ris2 ?_ ?_; (repeat' first | exact rfl | (refine qS ?_; constructor)); done) | (refine VEqs.ris (qvs ?_); (repeat' first | exact rfl | (refine qS ?_; constructor)); done)) : RIs X args := h
theorem A1.pR (hc : PFD P f args v) (hf : evo env fop = .c (.fnR f rows)) (hg : guardOf env g = .run) (h : putK dst v env fun env' => wpOps P N base rest env' σ nx none K) (ha : RIs (xs.map (evo env) ++ rows.map fun r => V.c (.rp r)) args := by exact fitsR) : OpsL P N base (⟨dst, .call fop xs, g⟩ :: rest) ⟨env, σ, nx⟩ K := Ops.pcR hf ha hc hg h
theorem A2.pR (hc : p → PFD P f args v) (hf : evo env fop = .c (.fnR f rows)) (hg : guardOf env g = .run) (h : putK dst v env fun env' => wpOps P N base rest env' σ nx none K) (ha : RIs (xs.map (evo env) ++ rows.map fun r => V.c (.rp r)) args := by exact fitsR) (hp : p := by exact ob) : OpsL P N base (⟨dst, .call fop xs, g⟩ :: rest) ⟨env, σ, nx⟩ K := Ops.pcR hf ha (hc hp) hg h
theorem A3.pR (hc : PFD P f args v) (hf : evo env fop = .c (.fnR f rows)) (hg : guardOf env g = .run) (h : putK dst v env fun env' => wpD P N base M rest env' σ nx none ((false, []) :: acc) K) (ha : RIs (xs.map (evo env) ++ rows.map fun r => V.c (.rp r)) args := by exact fitsR) : OpsDL P N base M (⟨dst, .call fop xs, g⟩ :: rest) ⟨env, σ, nx⟩ acc K := OpsD.pcR hf ha hc hg h
theorem A4.pR (hc : p → PFD P f args v) (hf : evo env fop = .c (.fnR f rows)) (hg : guardOf env g = .run) (h : putK dst v env fun env' => wpD P N base M rest env' σ nx none ((false, []) :: acc) K) (ha : RIs (xs.map (evo env) ++ rows.map fun r => V.c (.rp r)) args := by exact fitsR) (hp : p := by exact ob) : OpsDL P N base M (⟨dst, .call fop xs, g⟩ :: rest) ⟨env, σ, nx⟩ acc K := OpsD.pcR hf ha (hc hp) hg h
variable {ds : List D}
theorem A1.pB (hc : PFD P f args v) (hf : evo env fop = .c (.fnB f ds)) (hg : guardOf env g = .run) (h : putK dst v env fun env' => wpOps P N base rest env' σ nx none K) (ha : RIs (.agg (ds.map .d) :: xs.map (evo env)) args := by exact fitsR) : OpsL P N base (⟨dst, .call fop xs, g⟩ :: rest) ⟨env, σ, nx⟩ K := Ops.pcB hf ha hc hg h
theorem A2.pB (hc : p → PFD P f args v) (hf : evo env fop = .c (.fnB f ds)) (hg : guardOf env g = .run) (h : putK dst v env fun env' => wpOps P N base rest env' σ nx none K) (ha : RIs (.agg (ds.map .d) :: xs.map (evo env)) args := by exact fitsR) (hp : p := by exact ob) : OpsL P N base (⟨dst, .call fop xs, g⟩ :: rest) ⟨env, σ, nx⟩ K := Ops.pcB hf ha (hc hp) hg h
theorem A3.pB (hc : PFD P f args v) (hf : evo env fop = .c (.fnB f ds)) (hg : guardOf env g = .run) (h : putK dst v env fun env' => wpD P N base M rest env' σ nx none ((false, []) :: acc) K) (ha : RIs (.agg (ds.map .d) :: xs.map (evo env)) args := by exact fitsR) : OpsDL P N base M (⟨dst, .call fop xs, g⟩ :: rest) ⟨env, σ, nx⟩ acc K := OpsD.pcB hf ha hc hg h
theorem A4.pB (hc : p → PFD P f args v) (hf : evo env fop = .c (.fnB f ds)) (hg : guardOf env g = .run) (h : putK dst v env fun env' => wpD P N base M rest env' σ nx none ((false, []) :: acc) K) (ha : RIs (.agg (ds.map .d) :: xs.map (evo env)) args := by exact fitsR) (hp : p := by exact ob) : OpsDL P N base M (⟨dst, .call fop xs, g⟩ :: rest) ⟨env, σ, nx⟩ acc K := OpsD.pcB hf ha (hc hp) hg h
end
end Go.Pw

set_option linter.unusedVariables false
namespace Go.Pw
open Go Go.RowKit
theorem liveId_setE {Γ : Cx} {σ : Store} {id : Nat} {x y : Ent} (hg : get σ id = some x) (h : EEq x y) (j : Nat) : LiveId Γ (set σ id y) j ↔ LiveId Γ σ j := by
  rw [liveId_iff, liveId_iff]
  by_cases hj : j = id
  · subst hj
    rw [get_set_same hg]
    constructor
    · rintro ⟨e, he, hl⟩; cases he; exact ⟨x, hg, h.live.1 hl⟩
    · rintro ⟨e, he, hl⟩; rw [hg] at he; cases he; exact ⟨y, rfl, h.live.2 hl⟩
  · rw [get_set_other hj]
theorem StoreOk.setE {Γ : Cx} {w : World} {σ : Store} {id : Nat} {x y : Ent} (hs : StoreOk Γ w σ) (hg : get σ id = some x) (h : EEq x y) : StoreOk Γ w (set σ id y) where
  im := hs.im
  ok := fun j e he => by
    by_cases hj : j = id
    · subst hj
      rw [get_set_same hg] at he; cases he
      obtain ⟨b, hb, hok⟩ := hs.ok j x hg
      exact ⟨b, hb, h.ent hok⟩
    · rw [get_set_other hj] at he; exact hs.ok j e he
  inj := fun i j k hi hj => hs.inj i j k ((liveId_setE hg h i).1 hi) ((liveId_setE hg h j).1 hj)
theorem Mv.ent {base : Nat} {env : List (Nat × V)} {σ : Store} {nx id : Nat} {x y : Ent} (hg : get σ id = some x) (h : EEq x y) : Mv base ⟨env, σ, nx⟩ ⟨env, set σ id y, nx⟩ := fun N B0 Γ w a hc => by
  have hl : ∀ k, Live Γ (set σ id y) k ↔ Live Γ σ k := fun k => ⟨fun ⟨i, hi, hk⟩ => ⟨i, (liveId_setE hg h i).1 hi, hk⟩, fun ⟨i, hi, hk⟩ => ⟨i, (liveId_setE hg h i).2 hi, hk⟩⟩
  refine ⟨Γ, ⟨hc.size, hc.env, hc.ok.setE hg h, hc.free, hc.le, ?_⟩, ⟨rfl, rfl, rfl, Nat.le_refl _, fun _ h => h, fun _ h => .inl h, fun _ _ => rfl, fun _ _ => rfl, fun _ _ _ => rfl, fun k hk => .inl ((hl k).1 hk)⟩⟩
  obtain ⟨Ds, d1, d2, d3⟩ := hc.dfs
  refine ⟨Ds, d1, d2, fun D hD => ?_⟩
  obtain ⟨d4, d5, d6, d7⟩ := d3 D hD
  exact ⟨d4, d5, fun hlv => d6 ((hl D).1 hlv), d7⟩
section
variable {P : Program} {N base : Nat} {env : List (Nat × V)} {σ : Store} {nx : Nat} {x y : Ent}
theorem OpsL.ent {ops : List LIns} {K : St → Prop} (id : Nat) (hg : get σ id = some x) (h : EEq x y) (k : frS (set σ id y) fun σ' => OpsL P N base ops ⟨env, σ', nx⟩ K) : OpsL P N base ops ⟨env, σ, nx⟩ K := by
  rw [frS_eq] at k
  exact ⟨Ops.from (Mv.ent hg h) k.h⟩
theorem OpsL.go {ops : List LIns} {K : St → Prop} (h : wpOps P N base ops env σ nx none K) : OpsL P N base ops ⟨env, σ, nx⟩ K := ⟨Ops.wp h⟩
theorem SatL.ent {c : LCode} {Q : Exit → St → Prop} (id : Nat) (hg : get σ id = some x) (h : EEq x y) (k : frS (set σ id y) fun σ' => SatL P N base c ⟨env, σ', nx⟩ Q) : SatL P N base c ⟨env, σ, nx⟩ Q := by
  rw [frS_eq] at k
  exact ⟨Sat.from (Mv.ent hg h) k.h⟩
theorem MvQ.ent {e : Exit} {Q : Exit → St → Prop} (id : Nat) (hg : get σ id = some x) (h : EEq x y) (k : frS (set σ id y) fun σ' => MvQ base Q e ⟨env, σ', nx⟩) : MvQ base Q e ⟨env, σ, nx⟩ := by
  rw [frS_eq] at k
  exact MvQ.from (Mv.ent hg h) k
def toDL : List C → Option (List D)
  | [] => some []
  | c :: cs => match toD c, toDL cs with
    | some d, some ds => some (d :: ds)
    | _, _ => none
theorem toDL_get : ∀ {cs : List C} {ds : List D}, toDL cs = some ds → ds.length = cs.length ∧ ∀ (i : Nat) c d, cs[i]? = some c → ds[i]? = some d → toD c = some d
  | [], ds, h => by simp only [toDL, Option.some.injEq] at h; subst h; exact ⟨rfl, fun i c d h => by simp at h⟩
  | c :: cs, ds, h => by
    simp only [toDL] at h
    split at h
    · rename_i d l h1 h2
      cases h
      obtain ⟨h3, h4⟩ := toDL_get h2
      refine ⟨by simp [h3], fun i c' d' hc hd => ?_⟩
      cases i with
      | zero => simp at hc hd; subst hc; subst hd; exact h1
      | succ i => exact h4 i c' d' (by simpa using hc) (by simpa using hd)
    · cases h
theorem live_delE {Γ : Cx} {σ : Store} {id k : Nat} (h : Live Γ (del σ id) k) : Live Γ σ k := live_del h
theorem Conc.freezeB {B0 : Nat} {Γ : Cx} {w : World} {a : Act} {id : Nat} {cs : List C} {ds : List D} (hc : Conc N B0 base Γ w ⟨env, σ, nx⟩ a) (hg : get σ id = some (.box cs)) (hd : toDL cs = some ds) :
    ∃ Γ' b, Γ.ρ id = some b ∧ Γ' = Γ.also (fun k => k = b) ∧ Conc N B0 base Γ' w ⟨env, del σ id, nx⟩ a ∧ Ext base Γ w σ Γ' w (del σ id) ∧ ∀ off, RepP Γ'.I w (ds.drop off) (ptr b off) := by
  obtain ⟨b, hb, hnI, xs, t, hh, hsz, hcs⟩ := hc.ok.ok id _ hg
  have hli : LiveId Γ σ id := .inl ⟨cs, hg⟩
  have hle : CxLe Γ (Γ.also fun k => k = b) := CxLe.also _ _
  have hd1 := hc.ok.del id
  have hne : ∀ j, LiveId Γ (del σ id) j → Γ.ρ j ≠ some b := fun j hl hjb => by
    obtain ⟨hj, hl'⟩ := liveId_del hl
    exact hj (hc.ok.inj j id b hl' hli hjb hb)
  have hlt : b < w.heap.size := (Array.getElem?_eq_some_iff.1 hh).1
  have h1 : StoreOk (Γ.also fun k => k = b) w (del σ id) := hd1.keep hle (fun k hI => by
    rcases hI with hI | rfl
    · exact hc.ok.im k hI
    · exact hlt) (fun _ _ => rfl) (fun _ _ => rfl) (fun k hl hI => by
    rcases hI with hI | rfl
    · exact hd1.not_live hI hl
    · obtain ⟨j, hj, hjb⟩ := hl
      exact hne j hj hjb)
  have hlv : ∀ k, Live (Γ.also fun k => k = b) (del σ id) k → Live Γ σ k := fun k hk => live_delE (live_also.1 hk)
  have hext : Ext base Γ w σ (Γ.also fun k => k = b) w (del σ id) :=
    ⟨rfl, rfl, rfl, Nat.le_refl _, fun k hk => .inl hk, fun k hk => by
      rcases hk with hk | rfl
      · exact .inl hk
      · exact .inr (.inr ⟨id, hli, hb⟩), fun _ _ => rfl, fun _ _ => rfl, fun _ _ _ => rfl, fun k hk => .inl (hlv k hk)⟩
  refine ⟨_, b, hb, rfl, ⟨hc.size, fun t => (hc.env t).mono hle (fun _ _ => rfl), h1, hc.free, hc.le, ?_⟩, hext, fun off => ⟨_, rfl, .inr rfl, fun j d hj => ?_⟩⟩
  · obtain ⟨Ds, d1, d2, d3⟩ := hc.dfs
    refine ⟨Ds, d1, d2, fun D hD => ?_⟩
    obtain ⟨d4, d5, d6, d7⟩ := d3 D hD
    refine ⟨d4, fun hI => ?_, fun hl => d6 (hlv D hl), d7⟩
    rcases hI with h3 | rfl
    · exact d5 h3
    · exact d6 ⟨id, hli, hb⟩
  · rw [List.getElem?_drop] at hj
    obtain ⟨e1, e2⟩ := toDL_get hd
    have hjl : off + j < cs.length := by rw [← e1]; exact (List.getElem?_eq_some_iff.1 hj).1
    obtain ⟨x, hx, hr⟩ := hcs (off + j) cs[off + j] (List.getElem?_eq_getElem hjl)
    refine ⟨x, by rw [cell_at hh]; exact hx, ?_⟩
    exact (toD_rep (e2 (off + j) cs[off + j] d (List.getElem?_eq_getElem hjl) hj) hr).mono (fun _ h => .inl h) (fun _ _ => rfl)
/-- These slots point to the box: they point to cells that never turn. -/
def frzE (env : List (Nat × V)) (id : Nat) (ds : List D) : List Nat → List (Nat × V)
  | [] => env
  | t :: ts => match lk env t with
    | .c (.bp i off) => match Nat.beq i id with
      | true => (t, .c (.rp (ds.drop off))) :: frzE env id ds ts
      | false => frzE env id ds ts
    | _ => frzE env id ds ts
def frzK (env : List (Nat × V)) (id : Nat) (ds : List D) : List Nat → (List (Nat × V) → Prop) → Prop
  | [], k => k env
  | t :: ts, k => match lk env t with
    | .c (.bp i off) => match Nat.beq i id with
      | true => frzK env id ds ts fun e => k ((t, .c (.rp (ds.drop off))) :: e)
      | false => frzK env id ds ts k
    | _ => frzK env id ds ts k
theorem frzK_eq {id : Nat} {ds : List D} : ∀ (ts : List Nat) (k : List (Nat × V) → Prop), frzK env id ds ts k = k (frzE env id ds ts)
  | [], k => rfl
  | t :: ts, k => by
    simp only [frzK, frzE]
    split
    · split
      · rw [frzK_eq ts]
      · exact frzK_eq ts k
    · exact frzK_eq ts k
theorem Mv.freezeB (id : Nat) {cs : List C} {ds : List D} (ts : List Nat) (hg : get σ id = some (.box cs)) (hd : toDL cs = some ds) : Mv base ⟨env, σ, nx⟩ ⟨frzE env id ds ts, del σ id, nx⟩ := fun N B0 Γ w a hc => by
  obtain ⟨Γ', b, hb, rfl, h1, h2, h3⟩ := hc.freezeB hg hd
  refine ⟨_, ⟨h1.size, fun t' => ?_, h1.ok, h1.free, h1.le, h1.dfs⟩, h2⟩
  have key : ∀ ts, RepV (Γ.also fun k => k = b) w (lk (frzE env id ds ts) t') (a.tmps.getD t' undef) := by
    intro ts
    induction ts with
    | nil => exact h1.env t'
    | cons t ts ih =>
      simp only [frzE]
      split
      · rename_i i off hlk
        split
        · rename_i hi
          have hi := Nat.eq_of_beq_eq_true hi
          subst hi
          rw [lk_cons]
          split
          · rename_i ht
            subst ht
            have := hc.env t
            simp only at this
            rw [hlk] at this
            generalize a.tmps.getD t undef = u at this ⊢
            cases this with | c _ _ hr =>
            obtain ⟨b', hb', rfl⟩ := hr
            rw [hb] at hb'; cases hb'
            exact .c _ _ (h3 off)
          · exact ih
        · exact ih
      · exact ih
  exact key ts
theorem SatL.frB {c : LCode} {Q : Exit → St → Prop} (id : Nat) {cs : List C} {ds : List D} (ts : List Nat) (hg : get σ id = some (.box cs)) (hd : toDL cs = some ds) (k : frzK env id ds ts fun env' => frS (del σ id) fun σ' => SatL P N base c ⟨env', σ', nx⟩ Q) : SatL P N base c ⟨env, σ, nx⟩ Q := by
  rw [frzK_eq, frS_eq] at k
  exact ⟨Sat.from (Mv.freezeB id ts hg hd) k.h⟩
theorem OpsL.frB {ops : List LIns} {K : St → Prop} (id : Nat) {cs : List C} {ds : List D} (ts : List Nat) (hg : get σ id = some (.box cs)) (hd : toDL cs = some ds) (k : frzK env id ds ts fun env' => frS (del σ id) fun σ' => OpsL P N base ops ⟨env', σ', nx⟩ K) : OpsL P N base ops ⟨env, σ, nx⟩ K := by
  rw [frzK_eq, frS_eq] at k
  exact ⟨Ops.from (Mv.freezeB id ts hg hd) k.h⟩
/-- A slot says it otherwise. -/
theorem SatL.as {c : LCode} {Q : Exit → St → Prop} (t : Nat) (v : V) (h : VEq (lk env t) v) (k : SatL P N base c ⟨(t, v) :: env, σ, nx⟩ Q) : SatL P N base c ⟨env, σ, nx⟩ Q :=
  ⟨Sat.from (Mv.env fun t' => by
    rw [lk_cons]
    split
    · rename_i ht; subst ht; exact h.ri
    · exact RI.refl _) k.h⟩
theorem OpsL.as {ops : List LIns} {K : St → Prop} (t : Nat) (v : V) (h : VEq (lk env t) v) (k : OpsL P N base ops ⟨(t, v) :: env, σ, nx⟩ K) : OpsL P N base ops ⟨env, σ, nx⟩ K :=
  ⟨Ops.from (Mv.env fun t' => by
    rw [lk_cons]
    split
    · rename_i ht; subst ht; exact h.ri
    · exact RI.refl _) k.h⟩
theorem VEq.cut {α : Type} {s k j : Nat} {row : α → List D} {d : α} {l m : List α} (h1 : k ≤ j) (h2 : j ≤ l.length) (h : m = (l.take j).drop k) : VEq (.c (.d (.sl s (j - k) fun i => row (l.getD (k + i) d)))) (.c (slv s row d m)) := QQ.sound (.cut ⟨h1, h2, h⟩)
/-- The row of a slot is closed. -/
theorem SatL.frz {c : LCode} {Q : Exit → St → Prop} (t id : Nat) {n : Nat} {e : TypeId} {s m : Nat} {f : Nat → List D} {fz : Bool} (h : lk env t = .c (.ms id n)) (hg : get σ id = some (.row e s m f fz)) (hn : n ≤ m)
    (k : frS (set σ id (.row e s m f true)) fun σ' => SatL P N base c ⟨(t, .c (.d (.sl s n f))) :: env, σ', nx⟩ Q) : SatL P N base c ⟨env, σ, nx⟩ Q := by
  rw [frS_eq] at k
  exact ⟨Sat.from (Mv.freeze t id h hg hn) k.h⟩
end
end Go.Pw

set_option linter.unusedVariables false
namespace Go.Pw
open Go Go.RowKit
/-- The row that lies in a cell of a box is closed; the cell holds data. -/
theorem Mv.freezeX {base : Nat} {env : List (Nat × V)} {σ : Store} {nx : Nat} (idb j id : Nat) {cs : List C} {n : Nat} {e : TypeId} {s m : Nat} {f : Nat → List D} {fz : Bool} (hbx : get σ idb = some (.box cs)) (hj : cs[j]? = some (.ms id n)) (hg : get σ id = some (.row e s m f fz)) (hn : n ≤ m) :
    Mv base ⟨env, σ, nx⟩ ⟨env, set (set σ id (.row e s m f true)) idb (.box (putAt cs j (.d (.sl s n f)))), nx⟩ := fun N B0 Γ w a hc => by
  have hne : idb ≠ id := fun h => by subst h; rw [hbx] at hg; cases hg
  obtain ⟨Γ', b, hb, rfl, h1, h2⟩ := hc.freeze hg
  have hg' : get (set σ id (.row e s m f true)) idb = some (.box cs) := by rw [get_set_other hne]; exact hbx
  obtain ⟨b2, hb2, hok2⟩ := h1.ok.ok idb _ hg'
  obtain ⟨hI, xs, t, hh, hl, hr⟩ := hok2
  obtain ⟨b3, hb3, hok3⟩ := hc.ok.ok idb _ hbx
  have : b3 = b2 := by
    have e : Γ.ρ idb = some b2 := hb2
    rw [hb3] at e; cases e; rfl
  subst this
  obtain ⟨_, xs', t', hh', _, hr'⟩ := hok3
  rw [hh] at hh'; cases hh'
  have h3 := h1.ok.modify (w' := w) (e' := .box (putAt cs j (.d (.sl s n f)))) hg' hb2 trivial (Nat.le_refl _) (fun _ _ _ => rfl) ⟨hI, xs, t, hh, by rw [hl, putAt_length], fun i c hc' => by
    rw [putAt_get] at hc'
    split at hc'
    · rename_i hi
      cases hc'
      obtain ⟨rfl, hi⟩ := hi
      obtain ⟨x, hx, hrx⟩ := hr' i _ hj
      obtain ⟨b', hb', hd⟩ := ms_data hc.ok hg hn hrx
      rw [hb] at hb'; cases hb'
      exact ⟨x, hx, hd _ (fun k hk => .inl hk) (fun hcc => .inr ⟨rfl, hcc⟩)⟩
    · exact hr i c hc'⟩
  have hext : Ext base Γ w σ (Γ.also fun k => k = b ∧ ∃ c, Γ.κ id = some c) w (set (set σ id (.row e s m f true)) idb (.box (putAt cs j (.d (.sl s n f))))) :=
    ⟨h2.os, h2.tape, h2.output, h2.size, h2.im, h2.new, h2.ρ, h2.κ, h2.keep, fun k hk => h2.live k (live_set hg' trivial hk)⟩
  refine ⟨_, ⟨h1.size, h1.env, h3, h1.free, h1.le, ?_⟩, hext⟩
  obtain ⟨Ds, d1, d2, d3⟩ := h1.dfs
  refine ⟨Ds, d1, d2, fun D hD => ?_⟩
  obtain ⟨d4, d5, d6, d7⟩ := d3 D hD
  exact ⟨d4, d5, fun hlv => d6 (live_set hg' trivial hlv), d7⟩
section
variable {P : Program} {N base : Nat}
theorem MvQ.frzX {Q : Exit → St → Prop} {x : Exit} {env : List (Nat × V)} {σ : Store} {nx : Nat} (idb j id : Nat) {cs : List C} {n : Nat} {e : TypeId} {s m : Nat} {f : Nat → List D} {fz : Bool} (hbx : get σ idb = some (.box cs)) (hj : cs[j]? = some (.ms id n)) (hg : get σ id = some (.row e s m f fz)) (hn : n ≤ m)
    (k : frS (set (set σ id (.row e s m f true)) idb (.box (putAt cs j (.d (.sl s n f))))) fun σ' => MvQ base Q x ⟨env, σ', nx⟩) : MvQ base Q x ⟨env, σ, nx⟩ := by
  rw [frS_eq] at k
  exact MvQ.from (Mv.freezeX idb j id hbx hj hg hn) k
theorem OpsL.frzX {ops : List LIns} {K : St → Prop} {env : List (Nat × V)} {σ : Store} {nx : Nat} (idb j id : Nat) {cs : List C} {n : Nat} {e : TypeId} {s m : Nat} {f : Nat → List D} {fz : Bool} (hbx : get σ idb = some (.box cs)) (hj : cs[j]? = some (.ms id n)) (hg : get σ id = some (.row e s m f fz)) (hn : n ≤ m)
    (k : frS (set (set σ id (.row e s m f true)) idb (.box (putAt cs j (.d (.sl s n f))))) fun σ' => OpsL P N base ops ⟨env, σ', nx⟩ K) : OpsL P N base ops ⟨env, σ, nx⟩ K := by
  rw [frS_eq] at k
  exact ⟨Ops.from (Mv.freezeX idb j id hbx hj hg hn) k.h⟩
theorem SatL.frzX {c : LCode} {Q : Exit → St → Prop} {env : List (Nat × V)} {σ : Store} {nx : Nat} (idb j id : Nat) {cs : List C} {n : Nat} {e : TypeId} {s m : Nat} {f : Nat → List D} {fz : Bool} (hbx : get σ idb = some (.box cs)) (hj : cs[j]? = some (.ms id n)) (hg : get σ id = some (.row e s m f fz)) (hn : n ≤ m)
    (k : frS (set (set σ id (.row e s m f true)) idb (.box (putAt cs j (.d (.sl s n f))))) fun σ' => SatL P N base c ⟨env, σ', nx⟩ Q) : SatL P N base c ⟨env, σ, nx⟩ Q := by
  rw [frS_eq] at k
  exact ⟨Sat.from (Mv.freezeX idb j id hbx hj hg hn) k.h⟩
theorem nmAt_nil (base : Nat) : nmAt base [] = id := by
  funext i
  unfold nmAt
  split <;> rfl
/-- What a function does to the store that it is given, from its code. -/
theorem CallD.of [m : Mix P] {f : FuncId} {lc : LCode} {rl : List RL} {args vs : List V} {σ σ' : Store} {nx nx' : Nat} (hf : FnOk P f N lc rl) (hN : Nat.ble args.length N = true) (hle : Nat.ble nx nx' = true) (hin : Is nx ⟨argEnv 0 args, σ, nx⟩ ⟨argEnv 0 args, σ, nx⟩ [])
    (h : wp P N nx lc ⟨argEnv 0 args, σ, nx⟩ (RetQ nx rl vs σ' nx')) : CallD P f args σ nx (retV vs) σ' nx' := by
  obtain ⟨hent, own, fn, h1, h2⟩ := hf
  have := hin.wk
  rw [nmAt_nil] at this
  exact CallD.enter h1 hent h2 (Nat.le_of_ble_eq_true hN) (Nat.le_of_ble_eq_true hle) this (Sat.of h)
theorem RetQ.is {nx nx' : Nat} {rl : List RL} {vs : List V} {σ' : Store} {e : Exit} {env : List (Nat × V)} (hres : resAll env σ' rl = some vs) (he : e = .normal ∨ e = .ret := by first | exact .inr rfl | exact .inl rfl) : RetQ nx rl vs σ' nx' e ⟨env, σ', nx'⟩ :=
  ⟨he, vs, hres, rfl, Mv.refl _ _⟩
end
end Go.Pw

set_option linter.unusedVariables false
namespace Go.Pw
open Go Go.RowKit
/-- What stands for d stands for e. -/
def DI (d e : D) : Prop := ∀ (I : Nat → Prop) (w : World) (u : Value), RepD I w d u → RepD I w e u
theorem DI.refl (d : D) : DI d d := fun _ _ _ h => h
def DIs (ds es : List D) : Prop := ds.length = es.length ∧ ∀ (j : Nat) d e, ds[j]? = some d → es[j]? = some e → DI d e
theorem DIs.nil : DIs [] [] := ⟨rfl, fun j d e h => by simp at h⟩
theorem DIs.cons {d e : D} {ds es : List D} (h : DI d e) (k : DIs ds es) : DIs (d :: ds) (e :: es) := ⟨by simp [k.1], fun j a b ha hb => by
  cases j with
  | zero => simp at ha hb; subst ha; subst hb; exact h
  | succ j => exact k.2 j a b (by simpa using ha) (by simpa using hb)⟩
theorem DIs.refl (ds : List D) : DIs ds ds := ⟨rfl, fun j d e h h' => by rw [h] at h'; cases h'; exact DI.refl d⟩
theorem DI.sl {s n : Nat} {f g : Nat → List D} (h : ∀ i, i < n → DIs (f i) (g i)) : DI (.sl s n f) (.sl s n g) := fun I w u hu => by
  cases hu with
  | slE s f A c => exact .slE _ _ _ _
  | sl s n f ad c U hn hI hs hc hr =>
    have get : ∀ i j e, i < n → (g i)[j]? = some e → ∃ d, (f i)[j]? = some d ∧ DI d e := fun i j e hi he => by
      have hj : j < (f i).length := by rw [(h i hi).1]; exact (List.getElem?_eq_some_iff.1 he).1
      exact ⟨(f i)[j], List.getElem?_eq_getElem hj, (h i hi).2 j _ _ (List.getElem?_eq_getElem hj) he⟩
    refine .sl s n g ad c U hn hI (fun i hi => by rw [← (h i hi).1]; exact hs i hi) (fun i j e hi he => ?_) (fun i j e hi he => ?_)
    · obtain ⟨d, hd, _⟩ := get i j e hi he
      exact hc i j d hi hd
    · obtain ⟨d, hd, hde⟩ := get i j e hi he
      exact hde _ _ _ (hr i j d hi hd)
theorem RI.aggI {ds es : List D} (h : DIs ds es) : RI (.agg (ds.map .d)) (.agg (es.map .d)) := fun Γ w u hu => by
  cases hu with
  | agg cs us hl hr =>
    refine .agg _ _ (by rw [hl]; simp [h.1]) fun i c u hc hu => ?_
    simp only [List.getElem?_map, Option.map_eq_some_iff] at hc
    obtain ⟨e, he, rfl⟩ := hc
    have hj : i < ds.length := by rw [h.1]; exact (List.getElem?_eq_some_iff.1 he).1
    exact h.2 i _ _ (List.getElem?_eq_getElem hj) he _ _ _ (hr i (.d ds[i]) u (by simp [hj]) hu)
theorem RI.cI {d e : D} (h : DI d e) : RI (.c (.d d)) (.c (.d e)) := fun Γ w u hu => by
  cases hu with
  | c x u hr => exact .c _ _ (h _ _ _ hr)
end Go.Pw

set_option linter.unusedSimpArgs false
set_option linter.unusedVariables false
namespace Go.Pw
open Go
theorem mbd {a b A B : Int} (ha : -A ≤ a ∧ a ≤ A) (hb : -B ≤ b ∧ b ≤ B) : -(A * B) ≤ a * b ∧ a * b ≤ A * B := by
  have hA : 0 ≤ A := by omega
  have hB : 0 ≤ B := by omega
  have h : (a * b).natAbs ≤ (A * B).natAbs := by
    rw [Int.natAbs_mul, Int.natAbs_mul]
    exact Nat.mul_le_mul (by omega) (by omega)
  have : 0 ≤ A * B := Int.mul_nonneg hA hB
  omega
abbrev wi (n lo hi : Int) : Bool := decide (lo ≤ n ∧ n ≤ hi)
/-- An error unless. -/
def unb : Bool → Int → Int
  | true, _ => 0
  | false, e => e
abbrev unl (p : Prop) [Decidable p] (e : Int) : Int := unb (decide p) e
/-- The first one that is not 0. -/
def fstE : List Int → Int
  | [] => 0
  | e :: l => if e = 0 then fstE l else e
theorem fstE_drop (l : List Int) (k : Nat) (h : k < l.length) : fstE (l.drop k) = if l.getD k 0 = 0 then fstE (l.drop (k + 1)) else l.getD k 0 := by
  rw [List.drop_eq_getElem_cons h, fstE, List.getD_eq_getElem?_getD, List.getElem?_eq_getElem h]
  rfl
theorem tdiv_bd {a b M : Int} (h : -M ≤ a ∧ a ≤ M) : -M ≤ a.tdiv b ∧ a.tdiv b ≤ M := by
  have h1 : (a.tdiv b).natAbs ≤ a.natAbs := by rw [Int.natAbs_tdiv]; exact Nat.div_le_self _ _
  omega
theorem floor_eq {n b : Int} (hb : 0 < b) : (if n.tmod b < 0 then n.tdiv b - 1 else n.tdiv b) = n / b := by
  have h1 := Int.tmod_add_mul_tdiv n b
  have h2 := Int.emod_add_mul_ediv n b
  have h3 := Int.emod_nonneg n (show b ≠ 0 by omega)
  have h4 := Int.emod_lt_of_pos n hb
  have h5 : n.tmod b < b := Int.tmod_lt_of_pos n hb
  have h6 : -b < n.tmod b := by
    have := Int.natAbs_tmod n b
    have h7 : (n.natAbs % b.natAbs) < b.natAbs := Nat.mod_lt _ (by omega)
    omega
  split
  · refine Int.eq_of_mul_eq_mul_left (show b ≠ 0 by omega) ?_
    have h7 : b * (n / b) - b * (n.tdiv b - 1) = n.tmod b + b - n % b := by rw [Int.mul_sub]; omega
    have h8 : b * (n / b) - b * (n.tdiv b - 1) = b * (n / b - (n.tdiv b - 1)) := by rw [← Int.mul_sub]
    rw [h8] at h7
    have h9 : n / b - (n.tdiv b - 1) = 0 := by
      rcases Int.lt_trichotomy (n / b - (n.tdiv b - 1)) 0 with h | h | h
      · have := Int.mul_le_mul_of_nonneg_left (show n / b - (n.tdiv b - 1) ≤ -1 by omega) (show 0 ≤ b by omega); omega
      · exact h
      · have := Int.mul_le_mul_of_nonneg_left (show 1 ≤ n / b - (n.tdiv b - 1) by omega) (show 0 ≤ b by omega); omega
    rw [show n.tdiv b - 1 = n / b by omega]
  · have h7 : b * (n / b) - b * n.tdiv b = n.tmod b - n % b := by omega
    rw [← Int.mul_sub] at h7
    rcases Int.lt_trichotomy (n / b - n.tdiv b) 0 with h | h | h
    · have := Int.mul_le_mul_of_nonneg_left (show n / b - n.tdiv b ≤ -1 by omega) (show 0 ≤ b by omega); omega
    · omega
    · have := Int.mul_le_mul_of_nonneg_left (show 1 ≤ n / b - n.tdiv b by omega) (show 0 ≤ b by omega); omega
theorem mod_eq {n b : Int} (hb : 0 < b) : (if n.tmod b < 0 then n.tmod b + b else n.tmod b) = n % b := by
  have h1 := Int.tmod_add_mul_tdiv n b
  have h2 := Int.emod_add_mul_ediv n b
  have h3 := floor_eq (n := n) hb
  split
  · rename_i h; rw [if_pos h] at h3; rw [← h3, Int.mul_sub] at h2; omega
  · rename_i h; rw [if_neg h] at h3; rw [← h3] at h2; omega
abbrev Md (n : Int) : Prop := -4611686018427387904 ≤ n ∧ n ≤ 4611686018427387904
theorem tmod_bd {n b : Int} (hb : 0 < b) : -b < n.tmod b ∧ n.tmod b < b := by
  have h5 : n.tmod b < b := Int.tmod_lt_of_pos n hb
  have := Int.natAbs_tmod n b
  have h7 : (n.natAbs % b.natAbs) < b.natAbs := Nat.mod_lt _ (by omega)
  omega
theorem ext_getD {α : Type} (d : α) {l m : List α} (hl : l.length = m.length) (h : ∀ i, i < l.length → l.getD i d = m.getD i d) : l = m := by
  refine List.ext_getElem hl fun i h1 h2 => ?_
  have := h i h1
  simpa [List.getD_eq_getElem?_getD, h1, h2] using this
abbrev gcdI (a b : Int) : Int := Int.gcd a b
theorem gcd_step (a b : Int) : Int.gcd b (a.tmod b) = Int.gcd a b := by
  simp only [Int.gcd, Int.natAbs_tmod]
  rw [Nat.gcd_comm, ← Nat.gcd_rec, Nat.gcd_comm]
theorem gcd_zero (a : Int) : gcdI a 0 = max a (-a) := by
  simp only [gcdI, Int.gcd, Int.natAbs_zero, Nat.gcd_zero_right]; omega
theorem tmod_abs {a b : Int} (hb : b ≠ 0) : (a.tmod b).natAbs < b.natAbs := by
  rw [Int.natAbs_tmod]; exact Nat.mod_lt _ (by omega)
/-- A fraction in lowest terms, of a number above 0. -/
abbrev frac (n d : Int) : Int × Int := (n.tdiv (gcdI n d), d.tdiv (gcdI n d))
theorem gcd_pos {n d : Int} (hd : 0 < d) : 0 < gcdI n d := by
  have : 0 < Int.gcd n d := Int.gcd_pos_of_ne_zero_right _ (by omega)
  simp only [gcdI]; omega
abbrev Lk := Int × Int × Int
abbrev Rg := Int × Int
abbrev lkOk (k : Lk) : Prop := (1 ≤ k.1 ∧ k.1 ≤ 1000) ∧ (-1000 ≤ k.2.1 ∧ k.2.1 ≤ 1000) ∧ 0 ≤ k.2.2 ∧ k.2.2 ≤ 20
abbrev curOk (n : Int) : Prop := -50 ≤ n ∧ n ≤ 50
theorem fstE_ok : ∀ {l : List Int}, fstE l = 0 ↔ ∀ e ∈ l, e = 0
  | [] => by simp [fstE]
  | e :: l => by
    rw [fstE]
    split
    · rename_i h; rw [fstE_ok (l := l)]; simp [h]
    · rename_i h; simp [h]
theorem unb_ok {b : Bool} {e : Int} (he : e ≠ 0) : unb b e = 0 ↔ b = true := by cases b <;> simp [unb, he]
/-- A valid line. -/
structure LnOk (x z : Int) (l : List Lk) : Prop where
  x : -10000 ≤ x ∧ x ≤ 10000
  z : -10000 ≤ z ∧ z ≤ 10000
  n : 0 < l.length ∧ l.length ≤ 10
  l : ∀ k ∈ l, lkOk k
structure Ln where
  x : Int
  z : Int
  l : List Lk
  b : List Rg
abbrev Ln.v (L : Ln) : List C := [int L.x, int L.z, trs L.l, prs L.b]
def Ln.h (L : Ln) (k : Nat) : Int := (L.l.getD k (0, 0, 0)).1
def Ln.w (L : Ln) (k : Nat) : Int := (L.l.getD k (0, 0, 0)).2.1
def Ln.d (L : Ln) (k : Nat) : Int := (L.l.getD k (0, 0, 0)).2.2
def Ln.lo (L : Ln) (k : Nat) : Int := (L.b.getD k (0, 0)).1
def Ln.hi (L : Ln) (k : Nat) : Int := (L.b.getD k (0, 0)).2
/-- The pull behind k links; the height of the last one. -/
def Ln.pl (L : Ln) : Nat → Int
  | 0 => L.x
  | k + 1 => L.pl k + L.d k * L.lo k
def Ln.ph (L : Ln) : Nat → Int
  | 0 => L.x
  | k + 1 => L.ph k + L.d k * L.hi k
def Ln.pz (L : Ln) : Nat → Int
  | 0 => L.z
  | k + 1 => L.pz k + L.w k
def Ln.hh (L : Ln) : Nat → Int
  | 0 => 0
  | k + 1 => L.h k
/-- A valid line with ranges of currents. -/
structure Ln.Ok (L : Ln) : Prop where
  k : LnOk L.x L.z L.l
  b : L.b.length = L.l.length
  c : ∀ r ∈ L.b, curOk r.1 ∧ curOk r.2 ∧ r.1 ≤ r.2
theorem getD_mem {α : Type} {l : List α} {k : Nat} (d : α) (h : k < l.length) : l.getD k d ∈ l := by
  rw [List.getD_eq_getElem?_getD, List.getElem?_eq_getElem h]; exact List.getElem_mem _
theorem Ln.Ok.lk {L : Ln} (h : L.Ok) {k : Nat} (hk : k < L.l.length) : (1 ≤ L.h k ∧ L.h k ≤ 1000) ∧ (-1000 ≤ L.w k ∧ L.w k ≤ 1000) ∧ 0 ≤ L.d k ∧ L.d k ≤ 20 := h.k.l _ (getD_mem _ hk)
theorem Ln.Ok.rg {L : Ln} (h : L.Ok) {k : Nat} (hk : k < L.l.length) : (-50 ≤ L.lo k ∧ L.lo k ≤ 50) ∧ (-50 ≤ L.hi k ∧ L.hi k ≤ 50) ∧ L.lo k ≤ L.hi k := h.c _ (getD_mem _ (by rw [h.b]; exact hk))
theorem Ln.Ok.dlo {L : Ln} (h : L.Ok) {k : Nat} (hk : k < L.l.length) : -1000 ≤ L.d k * L.lo k ∧ L.d k * L.lo k ≤ 1000 := by
  have h1 := h.lk hk
  have h2 := h.rg hk
  exact mbd (A := 20) (B := 50) (by omega) (by omega)
theorem Ln.Ok.dhi {L : Ln} (h : L.Ok) {k : Nat} (hk : k < L.l.length) : -1000 ≤ L.d k * L.hi k ∧ L.d k * L.hi k ≤ 1000 := by
  have h1 := h.lk hk
  have h2 := h.rg hk
  exact mbd (A := 20) (B := 50) (by omega) (by omega)
theorem Ln.Ok.bd {L : Ln} (h : L.Ok) : ∀ k : Nat, k ≤ L.l.length → (-20000 ≤ L.pl k ∧ L.pl k ≤ 20000) ∧ (-20000 ≤ L.ph k ∧ L.ph k ≤ 20000) ∧ -20000 ≤ L.pz k ∧ L.pz k ≤ 20000 := by
  have key : ∀ k : Nat, k ≤ L.l.length → (-10000 - 1000 * k ≤ L.pl k ∧ L.pl k ≤ 10000 + 1000 * k) ∧ (-10000 - 1000 * k ≤ L.ph k ∧ L.ph k ≤ 10000 + 1000 * k) ∧ -10000 - 1000 * k ≤ L.pz k ∧ L.pz k ≤ 10000 + 1000 * k := by
    intro k
    induction k with
    | zero => intro _; have := h.k.x; have := h.k.z; simp only [Ln.pl, Ln.ph, Ln.pz]; omega
    | succ k ih =>
      intro hk
      have := ih (by omega)
      have h1 := h.dlo (k := k) (by omega)
      have h2 := h.dhi (k := k) (by omega)
      have h3 := h.lk (k := k) (by omega)
      simp only [Ln.pl, Ln.ph, Ln.pz]
      omega
  intro k hk
  have := key k hk
  have := h.k.n
  omega
/-- What a round over the pulls knows. -/
theorem Ln.Ok.round {L : Ln} (h : L.Ok) {k : Nat} (hk : k < L.l.length) :
    (-1000 ≤ (L.l.getD k (0, 0, 0)).2.2 * (L.b.getD k (0, 0)).1 ∧ (L.l.getD k (0, 0, 0)).2.2 * (L.b.getD k (0, 0)).1 ≤ 1000) ∧
    (-1000 ≤ (L.l.getD k (0, 0, 0)).2.2 * (L.b.getD k (0, 0)).2 ∧ (L.l.getD k (0, 0, 0)).2.2 * (L.b.getD k (0, 0)).2 ≤ 1000) ∧
    (-1000 ≤ (L.l.getD k (0, 0, 0)).2.1 ∧ (L.l.getD k (0, 0, 0)).2.1 ≤ 1000) ∧
    ((-20000 ≤ L.pl k ∧ L.pl k ≤ 20000) ∧ (-20000 ≤ L.ph k ∧ L.ph k ≤ 20000) ∧ -20000 ≤ L.pz k ∧ L.pz k ≤ 20000) ∧ L.b.length = L.l.length ∧ 0 < L.l.length ∧ L.l.length ≤ 10 :=
  ⟨h.dlo hk, h.dhi hk, (h.lk hk).2.1, h.bd k (by omega), h.b, h.k.n.1, h.k.n.2⟩
theorem map_take {α β : Type} (f : α → β) (d : α) (l : List α) (k : Nat) (h : k < l.length) : (l.take (k + 1)).map f = (l.take k).map f ++ [f (l.getD k d)] := by
  rw [List.take_succ_eq_append_getElem h, List.map_append, List.getD_eq_getElem?_getD, List.getElem?_eq_getElem h]; rfl
def accL {α : Type} (f : Nat → α) (k : Nat) : List α := (List.range k).map f
theorem accL_succ {α : Type} (f : Nat → α) (k : Nat) : accL f (k + 1) = accL f k ++ [f k] := by simp [accL, List.range_succ]
theorem accL_len {α : Type} (f : Nat → α) (k : Nat) : (accL f k).length = k := by simp [accL]
def fltL (p : Nat → Bool) (k : Nat) : List Int := ((List.range k).filter p).map fun i : Nat => (i : Int)
theorem fltL_succ (p : Nat → Bool) (k : Nat) : fltL p (k + 1) = if p k = true then fltL p k ++ [(k : Int)] else fltL p k := by
  simp only [fltL, List.range_succ, List.filter_append, List.map_append]
  by_cases h : p k = true <;> simp [h]
theorem fltL_len (p : Nat → Bool) (k : Nat) : (fltL p k).length ≤ k := by
  have := List.length_filter_le p (List.range k)
  simp [fltL] at *; exact this
abbrev w64 (n : Int) : Prop := -9223372036854775808 ≤ n ∧ n ≤ 9223372036854775807
theorem w64_i {n : Int} (h : IntKind.has .i64 n = true) : w64 n := by
  simp only [IntKind.has, IntKind.min, IntKind.max, IntKind.signed, IntKind.bits, Bool.and_eq_true, decide_eq_true_eq] at h
  simp at h
  exact ⟨by omega, by omega⟩
end Go.Pw

set_option linter.unusedVariables false
set_option maxHeartbeats 2000000
set_option maxRecDepth 100000
namespace Go.Pw
open Go Go.Proofs
/-- moonpool/moonpoollaw08.DiveBounded -/
def lc7 : LCode :=
  (.seq (.region [⟨some 3, .boxS (.tmp 0), none⟩, ⟨some 4, .boxS (.tmp 1), none⟩, ⟨some 5, .boxS (.tmp 2), none⟩, ⟨some 6, .mv (.const (.bool false)), none⟩]) (.seq (.seq (.region
    [⟨some 31, .call (.func 8) [], none⟩, ⟨some 32, .un .not (.tmp 31), none⟩]) (.cond (.tmp 32) (.seq (.region [⟨some 6, .mv (.const (.bool false)), none⟩]) .ret) .skip)) (.seq
    (.seq (.region [⟨some 33, .load true 8 (.tmp 3), none⟩, ⟨some 34, .call (.func 9) [(.tmp 33)], none⟩, ⟨some 35, .un .not (.tmp 34), none⟩, ⟨some 36, .mv (.tmp 35), none⟩, ⟨some
    37, .load true 5 (.tmp 4), some (36, false)⟩, ⟨some 38, .call (.func 10) [(.tmp 37)], some (36, false)⟩, ⟨some 39, .un .not (.tmp 38), some (36, false)⟩, ⟨some 40, .pick (.tmp
    36) (.const (.bool true)) (.tmp 39), none⟩, ⟨some 41, .mv (.tmp 40), none⟩, ⟨some 42, .fld 0 (.tmp 5), some (41, false)⟩, ⟨some 43, .load false 1 (.tmp 42), some (41, false)⟩,
    ⟨some 44, .len (.tmp 43), some (41, false)⟩, ⟨some 45, .bin .gtr (.tmp 44) (.const (.int .i64 6)), some (41, false)⟩, ⟨some 46, .pick (.tmp 41) (.const (.bool true)) (.tmp 45),
    none⟩, ⟨some 47, .mv (.tmp 46), none⟩, ⟨some 48, .load true 8 (.tmp 3), some (47, false)⟩, ⟨some 49, .load true 5 (.tmp 4), some (47, false)⟩, ⟨some 50, .call (.func 16) [(.tmp
    48), (.tmp 49)], some (47, false)⟩, ⟨some 51, .bin .neq (.tmp 50) (.const (.int .i64 0)), some (47, false)⟩, ⟨some 52, .pick (.tmp 47) (.const (.bool true)) (.tmp 51), none⟩,
    ⟨some 53, .mv (.tmp 52), none⟩, ⟨some 54, .load true 8 (.tmp 3), some (53, false)⟩, ⟨some 55, .load true 5 (.tmp 4), some (53, false)⟩, ⟨some 56, .call (.func 28) [(.tmp 54),
    (.tmp 55)], some (53, false)⟩, ⟨some 57, .un .not (.tmp 56), some (53, false)⟩, ⟨some 58, .pick (.tmp 53) (.const (.bool true)) (.tmp 57), none⟩, ⟨some 59, .mv (.tmp 58), none⟩,
    ⟨some 60, .fld 1 (.tmp 5), some (59, false)⟩, ⟨some 61, .load true 2 (.tmp 60), some (59, false)⟩, ⟨some 62, .call (.func 42) [(.tmp 61)], some (59, false)⟩, ⟨some 63, .bin .neq
    (.tmp 62) (.const (.int .i64 0)), some (59, false)⟩, ⟨some 64, .pick (.tmp 59) (.const (.bool true)) (.tmp 63), none⟩]) (.cond (.tmp 64) (.seq (.region [⟨some 6, .mv (.const
    (.bool true)), none⟩]) .ret) .skip)) (.seq (.regionD [⟨some 66, .load true 8 (.tmp 3), none⟩, ⟨some 67, .call (.func 12) [(.tmp 66)], none⟩, ⟨some 68, .load true 5 (.tmp 4),
    none⟩, ⟨some 69, .call (.func 13) [(.tmp 68)], none⟩, ⟨some 70, .call (.func 22) [(.tmp 67), (.tmp 69)], none⟩, ⟨some 65, .mv (.tmp 70), none⟩, ⟨some 71, .ext (.tmp 65) 0,
    none⟩, ⟨some 72, .ext (.tmp 65) 1, none⟩, ⟨some 73, .ext (.tmp 65) 2, none⟩, ⟨some 7, .mv (.tmp 71), none⟩, ⟨some 8, .mv (.tmp 72), none⟩, ⟨some 9, .mv (.tmp 73), none⟩] [0, 1,
    0, 7, 15, 31, 63, 63, 63, 127, 767, 2047] [0, 1, 2, 3, 4, 5, 6, 7, 8, 9, 10, 11]) (.seq (.regionD [⟨some 75, .load true 8 (.tmp 3), none⟩, ⟨some 76, .call (.func 12) [(.tmp
    75)], none⟩, ⟨some 77, .load true 5 (.tmp 4), none⟩, ⟨some 78, .call (.func 13) [(.tmp 77)], none⟩, ⟨some 79, .fld 0 (.tmp 5), none⟩, ⟨some 80, .load false 1 (.tmp 79), none⟩,
    ⟨some 81, .call (.func 14) [(.tmp 80)], none⟩, ⟨some 82, .call (.func 32) [(.tmp 76), (.tmp 78), (.tmp 81)], none⟩, ⟨some 74, .mv (.tmp 82), none⟩, ⟨some 83, .ext (.tmp 74) 0,
    none⟩, ⟨some 84, .ext (.tmp 74) 1, none⟩, ⟨some 10, .mv (.tmp 83), none⟩, ⟨some 11, .mv (.tmp 84), none⟩] [0, 1, 0, 7, 0, 16, 63, 127, 255, 511, 511, 1023, 4095] [0, 1, 2, 3, 4,
    5, 6, 7, 8, 9, 10, 11, 12]) (.seq (.regionD [⟨some 86, .load true 8 (.tmp 3), none⟩, ⟨some 87, .call (.func 12) [(.tmp 86)], none⟩, ⟨some 88, .load true 5 (.tmp 4), none⟩, ⟨some
    89, .call (.func 13) [(.tmp 88)], none⟩, ⟨some 90, .mv (.tmp 7), none⟩, ⟨some 91, .call (.func 14) [(.tmp 90)], none⟩, ⟨some 92, .call (.func 32) [(.tmp 87), (.tmp 89), (.tmp
    91)], none⟩, ⟨some 85, .mv (.tmp 92), none⟩, ⟨some 93, .ext (.tmp 85) 0, none⟩, ⟨some 94, .ext (.tmp 85) 1, none⟩, ⟨some 12, .mv (.tmp 93), none⟩, ⟨some 13, .mv (.tmp 94),
    none⟩] [0, 1, 0, 7, 0, 31, 63, 127, 255, 255, 511, 2047] [0, 1, 2, 3, 4, 5, 6, 7, 8, 9, 10, 11]) (.seq (.regionD [⟨some 96, .load true 8 (.tmp 3), none⟩, ⟨some 97, .call (.func
    12) [(.tmp 96)], none⟩, ⟨some 98, .load true 5 (.tmp 4), none⟩, ⟨some 99, .call (.func 13) [(.tmp 98)], none⟩, ⟨some 100, .fld 1 (.tmp 5), none⟩, ⟨some 101, .load true 2 (.tmp
    100), none⟩, ⟨some 102, .call (.func 39) [(.tmp 97), (.tmp 99), (.tmp 101)], none⟩, ⟨some 95, .mv (.tmp 102), none⟩, ⟨some 103, .ext (.tmp 95) 0, none⟩, ⟨some 104, .ext (.tmp
    95) 1, none⟩, ⟨some 14, .alloc [(.int .i64 0), (.int .i64 0)], none⟩, ⟨none, .store 2 (.tmp 14) (.tmp 103), none⟩, ⟨some 15, .mv (.tmp 104), none⟩] [0, 1, 0, 7, 0, 16, 63, 127,
    255, 255, 0, 1535, 4095] [0, 1, 2, 3, 4, 5, 6, 7, 8, 9, 10, 11, 12]) (.seq (.regionD [⟨some 106, .load true 8 (.tmp 3), none⟩, ⟨some 107, .call (.func 12) [(.tmp 106)], none⟩,
    ⟨some 108, .load true 5 (.tmp 4), none⟩, ⟨some 109, .call (.func 13) [(.tmp 108)], none⟩, ⟨some 110, .call (.func 40) [(.tmp 107), (.tmp 109)], none⟩, ⟨some 105, .mv (.tmp 110),
    none⟩, ⟨some 111, .ext (.tmp 105) 0, none⟩, ⟨some 112, .ext (.tmp 105) 1, none⟩, ⟨some 113, .ext (.tmp 105) 2, none⟩, ⟨some 16, .alloc [(.int .i64 0), (.int .i64 0)], none⟩,
    ⟨some 17, .alloc [(.int .i64 0), (.int .i64 0)], none⟩, ⟨none, .store 2 (.tmp 16) (.tmp 111), none⟩, ⟨none, .store 2 (.tmp 17) (.tmp 112), none⟩, ⟨some 18, .mv (.tmp 113),
    none⟩] [0, 1, 0, 7, 15, 31, 63, 63, 63, 0, 0, 1663, 3839, 8191] [0, 1, 2, 3, 4, 5, 6, 7, 8, 9, 10, 11, 12, 13]) (.seq (.seq (.region [⟨some 114, .mv (.tmp 9), none⟩, ⟨some 115,
    .bin .neq (.tmp 114) (.const (.int .i64 0)), none⟩, ⟨some 116, .mv (.tmp 115), none⟩, ⟨some 117, .mv (.tmp 13), some (116, false)⟩, ⟨some 118, .bin .neq (.tmp 117) (.const (.int
    .i64 0)), some (116, false)⟩, ⟨some 119, .pick (.tmp 116) (.const (.bool true)) (.tmp 118), none⟩, ⟨some 120, .mv (.tmp 119), none⟩, ⟨some 121, .mv (.tmp 12), some (120,
    false)⟩, ⟨some 122, .mv (.tmp 8), some (120, false)⟩, ⟨some 123, .bin .neq (.tmp 121) (.tmp 122), some (120, false)⟩, ⟨some 124, .pick (.tmp 120) (.const (.bool true)) (.tmp
    123), none⟩, ⟨some 125, .mv (.tmp 124), none⟩, ⟨some 126, .mv (.tmp 15), some (125, false)⟩, ⟨some 127, .bin .neq (.tmp 126) (.const (.int .i64 0)), some (125, false)⟩, ⟨some
    128, .pick (.tmp 125) (.const (.bool true)) (.tmp 127), none⟩, ⟨some 129, .mv (.tmp 128), none⟩, ⟨some 130, .mv (.tmp 18), some (129, false)⟩, ⟨some 131, .bin .neq (.tmp 130)
    (.const (.int .i64 0)), some (129, false)⟩, ⟨some 132, .pick (.tmp 129) (.const (.bool true)) (.tmp 131), none⟩, ⟨some 133, .mv (.tmp 132), none⟩, ⟨some 134, .load true 2 (.tmp
    14), some (133, false)⟩, ⟨some 135, .call (.func 44) [(.tmp 134)], some (133, false)⟩, ⟨some 136, .un .not (.tmp 135), some (133, false)⟩, ⟨some 137, .pick (.tmp 133) (.const
    (.bool true)) (.tmp 136), none⟩, ⟨some 138, .mv (.tmp 137), none⟩, ⟨some 139, .load true 2 (.tmp 17), some (138, false)⟩, ⟨some 140, .call (.func 44) [(.tmp 139)], some (138,
    false)⟩, ⟨some 141, .un .not (.tmp 140), some (138, false)⟩, ⟨some 142, .pick (.tmp 138) (.const (.bool true)) (.tmp 141), none⟩, ⟨some 143, .mv (.tmp 142), none⟩, ⟨some 144,
    .load true 2 (.tmp 17), some (143, false)⟩, ⟨some 145, .load true 2 (.tmp 14), some (143, false)⟩, ⟨some 146, .call (.func 45) [(.tmp 144), (.tmp 145)], some (143, false)⟩,
    ⟨some 147, .bin .gtr (.tmp 146) (.const (.int .i64 0)), some (143, false)⟩, ⟨some 148, .pick (.tmp 143) (.const (.bool true)) (.tmp 147), none⟩, ⟨some 149, .mv (.tmp 148),
    none⟩, ⟨some 150, .load true 2 (.tmp 17), some (149, false)⟩, ⟨some 151, .mv (.tmp 8), some (149, false)⟩, ⟨some 152, .build [(.int .i64 0), (.int .i64 0)] [(0, 1, (.tmp 151)),
    (1, 1, (.const (.int .i64 1)))], some (149, false)⟩, ⟨some 153, .call (.func 45) [(.tmp 150), (.tmp 152)], some (149, false)⟩, ⟨some 154, .bin .lss (.tmp 153) (.const (.int .i64
    0)), some (149, false)⟩, ⟨some 155, .pick (.tmp 149) (.const (.bool true)) (.tmp 154), none⟩]) (.cond (.tmp 155) (.seq (.region [⟨some 6, .mv (.const (.bool false)), none⟩])
    .ret) .skip)) (.seq (.seq (.region [⟨some 156, .mv (.tmp 11), none⟩, ⟨some 157, .bin .eql (.tmp 156) (.const (.int .i64 0)), none⟩, ⟨some 158, .mv (.tmp 157), none⟩, ⟨some 159,
    .mv (.tmp 10), some (158, true)⟩, ⟨some 160, .mv (.tmp 8), some (158, true)⟩, ⟨some 161, .bin .gtr (.tmp 159) (.tmp 160), some (158, true)⟩, ⟨some 162, .mv (.tmp 161), some
    (158, true)⟩, ⟨some 163, .mv (.tmp 10), some (162, false)⟩, ⟨some 164, .mv (.tmp 8), some (162, false)⟩, ⟨some 165, .bin .eql (.tmp 163) (.tmp 164), some (162, false)⟩, ⟨some
    166, .mv (.tmp 165), some (162, false)⟩, ⟨some 167, .fld 0 (.tmp 5), some (166, true)⟩, ⟨some 168, .load false 1 (.tmp 167), some (166, true)⟩, ⟨some 169, .mv (.tmp 7), some
    (166, true)⟩, ⟨some 170, .call (.func 46) [(.tmp 168), (.tmp 169)], some (166, true)⟩, ⟨some 171, .pick (.tmp 166) (.tmp 170) (.const (.bool false)), some (162, false)⟩, ⟨some
    172, .pick (.tmp 162) (.const (.bool true)) (.tmp 171), some (158, true)⟩, ⟨some 173, .pick (.tmp 158) (.tmp 172) (.const (.bool false)), none⟩]) (.cond (.tmp 173) (.seq
    (.region [⟨some 6, .mv (.const (.bool false)), none⟩]) .ret) .skip)) (.seq (.seq (.region [⟨some 174, .fld 0 (.tmp 3), none⟩, ⟨some 175, .load false 1 (.tmp 174), none⟩, ⟨some
    176, .len (.tmp 175), none⟩, ⟨some 177, .bin .eql (.tmp 176) (.const (.int .i64 0)), none⟩]) (.cond (.tmp 177) (.seq (.region [⟨some 6, .mv (.const (.bool true)), none⟩]) .ret)
    .skip)) (.seq (.region [⟨some 178, .fld 3 (.tmp 5), none⟩, ⟨some 179, .load false 1 (.tmp 178), none⟩, ⟨some 180, .fld 0 (.tmp 3), none⟩, ⟨some 181, .load false 1 (.tmp 180),
    none⟩, ⟨some 182, .len (.tmp 181), none⟩, ⟨some 183, .call (.func 47) [(.tmp 179), (.tmp 182)], none⟩, ⟨some 19, .mv (.tmp 183), none⟩]) (.seq (.seq (.region [⟨some 184, .fld 4
    (.tmp 4), none⟩, ⟨some 185, .load false 1 (.tmp 184), none⟩, ⟨some 186, .mv (.tmp 19), none⟩, ⟨some 187, .call (.func 20) [(.tmp 185), (.tmp 186)], none⟩]) (.cond (.tmp 187)
    (.seq (.region [⟨some 6, .mv (.const (.bool true)), none⟩]) .ret) .skip)) (.seq (.regionD [⟨some 189, .load true 8 (.tmp 3), none⟩, ⟨some 190, .call (.func 12) [(.tmp 189)],
    none⟩, ⟨some 191, .load true 5 (.tmp 4), none⟩, ⟨some 192, .call (.func 13) [(.tmp 191)], none⟩, ⟨some 193, .mv (.tmp 19), none⟩, ⟨some 194, .call (.func 23) [(.tmp 190), (.tmp
    192), (.tmp 193)], none⟩, ⟨some 188, .mv (.tmp 194), none⟩, ⟨some 195, .ext (.tmp 188) 0, none⟩, ⟨some 196, .ext (.tmp 188) 1, none⟩, ⟨some 197, .ext (.tmp 188) 2, none⟩, ⟨some
    20, .mv (.tmp 195), none⟩, ⟨some 21, .mv (.tmp 196), none⟩, ⟨some 22, .mv (.tmp 197), none⟩] [0, 1, 0, 7, 0, 31, 63, 127, 127, 127, 255, 1535, 4095] [0, 1, 2, 3, 4, 5, 6, 7, 8,
    9, 10, 11, 12]) (.seq (.region [⟨some 199, .load true 8 (.tmp 3), none⟩, ⟨some 200, .call (.func 12) [(.tmp 199)], none⟩, ⟨some 201, .mv (.tmp 19), none⟩, ⟨some 202, .call
    (.func 24) [(.tmp 200), (.tmp 201)], none⟩, ⟨some 198, .mv (.tmp 202), none⟩, ⟨some 203, .ext (.tmp 198) 0, none⟩, ⟨some 204, .ext (.tmp 198) 1, none⟩, ⟨some 23, .mv (.tmp 203),
    none⟩, ⟨some 24, .mv (.tmp 204), none⟩]) (.seq (.regionD [⟨some 206, .load true 8 (.tmp 3), none⟩, ⟨some 207, .call (.func 12) [(.tmp 206)], none⟩, ⟨some 208, .load true 5 (.tmp
    4), none⟩, ⟨some 209, .call (.func 13) [(.tmp 208)], none⟩, ⟨some 210, .mv (.tmp 20), none⟩, ⟨some 211, .call (.func 14) [(.tmp 210)], none⟩, ⟨some 212, .call (.func 32) [(.tmp
    207), (.tmp 209), (.tmp 211)], none⟩, ⟨some 205, .mv (.tmp 212), none⟩, ⟨some 213, .ext (.tmp 205) 0, none⟩, ⟨some 214, .ext (.tmp 205) 1, none⟩, ⟨some 25, .mv (.tmp 213),
    none⟩, ⟨some 26, .mv (.tmp 214), none⟩] [0, 1, 0, 7, 0, 31, 63, 127, 255, 255, 511, 2047] [0, 1, 2, 3, 4, 5, 6, 7, 8, 9, 10, 11]) (.seq (.seq (.region [⟨some 215, .mv (.tmp 22),
    none⟩, ⟨some 216, .bin .neq (.tmp 215) (.const (.int .i64 0)), none⟩, ⟨some 217, .mv (.tmp 216), none⟩, ⟨some 218, .mv (.tmp 24), some (217, false)⟩, ⟨some 219, .bin .neq (.tmp
    218) (.const (.int .i64 0)), some (217, false)⟩, ⟨some 220, .pick (.tmp 217) (.const (.bool true)) (.tmp 219), none⟩, ⟨some 221, .mv (.tmp 220), none⟩, ⟨some 222, .mv (.tmp 26),
    some (221, false)⟩, ⟨some 223, .bin .neq (.tmp 222) (.const (.int .i64 0)), some (221, false)⟩, ⟨some 224, .pick (.tmp 221) (.const (.bool true)) (.tmp 223), none⟩, ⟨some 225,
    .mv (.tmp 224), none⟩, ⟨some 226, .mv (.tmp 25), some (225, false)⟩, ⟨some 227, .mv (.tmp 21), some (225, false)⟩, ⟨some 228, .bin .neq (.tmp 226) (.tmp 227), some (225,
    false)⟩, ⟨some 229, .pick (.tmp 225) (.const (.bool true)) (.tmp 228), none⟩, ⟨some 230, .mv (.tmp 229), none⟩, ⟨some 231, .mv (.tmp 21), some (230, false)⟩, ⟨some 232, .mv
    (.tmp 8), some (230, false)⟩, ⟨some 233, .bin .gtr (.tmp 231) (.tmp 232), some (230, false)⟩, ⟨some 234, .pick (.tmp 230) (.const (.bool true)) (.tmp 233), none⟩, ⟨some 235, .mv
    (.tmp 234), none⟩, ⟨some 236, .mv (.tmp 20), some (235, false)⟩, ⟨some 237, .mv (.tmp 19), some (235, false)⟩, ⟨some 238, .call (.func 20) [(.tmp 236), (.tmp 237)], some (235,
    false)⟩, ⟨some 239, .pick (.tmp 235) (.const (.bool true)) (.tmp 238), none⟩]) (.cond (.tmp 239) (.seq (.region [⟨some 6, .mv (.const (.bool false)), none⟩]) .ret) .skip)) (.seq
    (.seq (.region [⟨some 27, .mv (.const (.int .i64 0)), none⟩]) (.block 0 (.loop (.seq (.seq (.region [⟨some 240, .mv (.tmp 27), none⟩, ⟨some 241, .mv (.tmp 23), none⟩, ⟨some 242,
    .len (.tmp 241), none⟩, ⟨some 243, .bin .lss (.tmp 240) (.tmp 242), none⟩]) (.cond (.tmp 243) .skip (.exit 0))) (.seq (.block 1 (.seq (.seq (.regionD [⟨some 246, .mv (.tmp 20),
    none⟩, ⟨some 247, .mv (.tmp 23), none⟩, ⟨some 248, .mv (.tmp 27), none⟩, ⟨some 249, .idx 1 (.tmp 247) (.tmp 248), none⟩, ⟨some 250, .load false 1 (.tmp 249), none⟩, ⟨some 251,
    .call (.func 20) [(.tmp 246), (.tmp 250)], none⟩, ⟨some 252, .mv (.tmp 251), none⟩, ⟨some 253, .mv (.tmp 23), some (252, false)⟩, ⟨some 254, .mv (.tmp 27), some (252, false)⟩,
    ⟨some 255, .idx 1 (.tmp 253) (.tmp 254), some (252, false)⟩, ⟨some 256, .load false 1 (.tmp 255), some (252, false)⟩, ⟨some 257, .mv (.tmp 19), some (252, false)⟩, ⟨some 258,
    .bin .leq (.tmp 256) (.tmp 257), some (252, false)⟩, ⟨some 259, .pick (.tmp 252) (.const (.bool true)) (.tmp 258), none⟩, ⟨some 260, .mv (.tmp 259), none⟩, ⟨some 261, .mv (.tmp
    23), some (260, false)⟩, ⟨some 262, .mv (.tmp 27), some (260, false)⟩, ⟨some 263, .idx 1 (.tmp 261) (.tmp 262), some (260, false)⟩, ⟨some 264, .load false 1 (.tmp 263), some
    (260, false)⟩, ⟨some 265, .fld 0 (.tmp 3), some (260, false)⟩, ⟨some 266, .load false 1 (.tmp 265), some (260, false)⟩, ⟨some 267, .len (.tmp 266), some (260, false)⟩, ⟨some
    268, .bin .geq (.tmp 264) (.tmp 267), some (260, false)⟩, ⟨some 269, .pick (.tmp 260) (.const (.bool true)) (.tmp 268), none⟩] [0, 0, 0, 6, 14, 31, 63, 127, 127, 511, 1023, 127,
    4095, 8191, 16383, 32767, 32767, 131071, 262143, 32767, 557055, 1605631, 4194303, 8388607] [0, 1, 2, 3, 4, 5, 6, 7, 8, 9, 10, 11, 12, 13, 14, 15, 16, 17, 18, 19, 20, 21, 22,
    23]) (.cond (.tmp 269) (.seq (.region [⟨some 6, .mv (.const (.bool false)), none⟩]) .ret) .skip)) (.seq (.regionD [⟨some 271, .load true 8 (.tmp 3), none⟩, ⟨some 272, .call
    (.func 12) [(.tmp 271)], none⟩, ⟨some 273, .mv (.tmp 23), none⟩, ⟨some 274, .mv (.tmp 27), none⟩, ⟨some 275, .idx 1 (.tmp 273) (.tmp 274), none⟩, ⟨some 276, .load false 1 (.tmp
    275), none⟩, ⟨some 277, .call (.func 24) [(.tmp 272), (.tmp 276)], none⟩, ⟨some 270, .mv (.tmp 277), none⟩, ⟨some 278, .ext (.tmp 270) 0, none⟩, ⟨some 279, .ext (.tmp 270) 1,
    none⟩, ⟨some 28, .mv (.tmp 278), none⟩, ⟨some 29, .mv (.tmp 279), none⟩] [0, 1, 0, 0, 12, 28, 63, 127, 255, 255, 511, 2047] [0, 1, 2, 3, 4, 5, 6, 7, 8, 9, 10, 11]) (.seq (.seq
    (.region [⟨some 280, .mv (.tmp 29), none⟩, ⟨some 281, .bin .neq (.tmp 280) (.const (.int .i64 0)), none⟩]) (.cond (.tmp 281) (.seq (.region [⟨some 6, .mv (.const (.bool false)),
    none⟩]) .ret) .skip)) (.seq (.region [⟨some 30, .mv (.const (.int .i64 0)), none⟩]) (.block 2 (.loop (.seq (.seq (.region [⟨some 282, .mv (.tmp 30), none⟩, ⟨some 283, .mv (.tmp
    28), none⟩, ⟨some 284, .len (.tmp 283), none⟩, ⟨some 285, .bin .lss (.tmp 282) (.tmp 284), none⟩]) (.cond (.tmp 285) .skip (.exit 2))) (.seq (.block 3 (.seq (.region [⟨some 288,
    .mv (.tmp 23), none⟩, ⟨some 289, .mv (.tmp 28), none⟩, ⟨some 290, .mv (.tmp 30), none⟩, ⟨some 291, .idx 1 (.tmp 289) (.tmp 290), none⟩, ⟨some 292, .load false 1 (.tmp 291),
    none⟩, ⟨some 293, .call (.func 20) [(.tmp 288), (.tmp 292)], none⟩, ⟨some 294, .un .not (.tmp 293), none⟩]) (.cond (.tmp 294) (.seq (.region [⟨some 6, .mv (.const (.bool
    false)), none⟩]) .ret) .skip))) (.region [⟨some 286, .mv (.tmp 30), none⟩, ⟨some 287, .bin .add (.tmp 286) (.const (.int .i64 1)), none⟩, ⟨some 30, .mv (.tmp 287),
    none⟩])))))))))) (.region [⟨some 244, .mv (.tmp 27), none⟩, ⟨some 245, .bin .add (.tmp 244) (.const (.int .i64 1)), none⟩, ⟨some 27, .mv (.tmp 245), none⟩])))))) (.seq (.region
    [⟨some 6, .mv (.const (.bool true)), none⟩]) .ret)))))))))))))))))))
theorem low7 : lowF Tryz.prog [3, 4, 5] Tryz.f7 = some (295, lc7.strip, [.tmp 6]) := by kernel_rfl
theorem fn7 : FnOk Tryz.prog 7 295 lc7 [.tmp 6] := ⟨Tryz.call7, [3, 4, 5], _, Tryz.func7, low7⟩
/-- moonpool/moonpoollaw08.awake -/
def lc8 : LCode :=
  (.seq (.region [⟨some 0, .mv (.const (.bool false)), none⟩]) (.seq (.region [⟨some 11, .call (.func 48) [], none⟩, ⟨some 12, .call (.func 49) [], none⟩, ⟨some 13, .call (.func 30)
    [(.tmp 11), (.tmp 12), (.const (.int .i64 0))], none⟩, ⟨some 10, .mv (.tmp 13), none⟩, ⟨some 14, .ext (.tmp 10) 0, none⟩, ⟨some 15, .ext (.tmp 10) 1, none⟩, ⟨some 1, .alloc
    [(.int .i64 0), (.int .i64 0), (.int .i64 0), (.int .i64 0), (.slice none 0 0)], none⟩, ⟨none, .store 5 (.tmp 1) (.tmp 14), none⟩, ⟨some 2, .mv (.tmp 15), none⟩]) (.seq (.region
    [⟨some 17, .call (.func 48) [], none⟩, ⟨some 18, .lit false 3 1 [(.const (.int .i64 0))], none⟩, ⟨some 19, .build [(.int .i64 0), (.int .i64 0), (.int .i64 0), (.int .i64 0),
    (.slice none 0 0)] [(0, 1, (.const (.int .i64 1))), (1, 1, (.const (.int .i64 30))), (2, 1, (.const (.int .i64 250))), (3, 1, (.const (.int .i64 2))), (4, 1, (.tmp 18))], none⟩,
    ⟨some 20, .call (.func 50) [(.tmp 17), (.tmp 19)], none⟩, ⟨some 16, .mv (.tmp 20), none⟩, ⟨some 21, .ext (.tmp 16) 0, none⟩, ⟨some 22, .ext (.tmp 16) 1, none⟩, ⟨some 3, .mv
    (.tmp 21), none⟩, ⟨some 4, .mv (.tmp 22), none⟩]) (.seq (.region [⟨some 24, .call (.func 48) [], none⟩, ⟨some 25, .call (.func 49) [], none⟩, ⟨some 26, .call (.func 22) [(.tmp
    24), (.tmp 25)], none⟩, ⟨some 23, .mv (.tmp 26), none⟩, ⟨some 27, .ext (.tmp 23) 0, none⟩, ⟨some 28, .ext (.tmp 23) 1, none⟩, ⟨some 29, .ext (.tmp 23) 2, none⟩, ⟨some 5, .mv
    (.tmp 27), none⟩, ⟨some 6, .mv (.tmp 28), none⟩, ⟨some 7, .mv (.tmp 29), none⟩]) (.seq (.region [⟨some 31, .call (.func 48) [], none⟩, ⟨some 32, .call (.func 49) [], none⟩,
    ⟨some 33, .call (.func 15) [(.tmp 31), (.tmp 32)], none⟩, ⟨some 30, .mv (.tmp 33), none⟩, ⟨some 34, .ext (.tmp 30) 0, none⟩, ⟨some 35, .ext (.tmp 30) 1, none⟩, ⟨some 8, .mv
    (.tmp 34), none⟩, ⟨some 9, .mv (.tmp 35), none⟩]) (.seq (.region [⟨some 36, .mv (.tmp 2), none⟩, ⟨some 37, .bin .eql (.tmp 36) (.const (.int .i64 0)), none⟩, ⟨some 38, .mv (.tmp
    37), none⟩, ⟨some 39, .load true 5 (.tmp 1), some (38, true)⟩, ⟨some 40, .lit false 3 1 [(.const (.int .i64 0))], some (38, true)⟩, ⟨some 41, .build [(.int .i64 0), (.int .i64
    0), (.int .i64 0), (.int .i64 0), (.slice none 0 0)] [(0, 1, (.const (.int .i64 1))), (1, 1, (.const (.int .i64 30))), (2, 1, (.const (.int .i64 250))), (3, 1, (.const (.int
    .i64 2))), (4, 1, (.tmp 40))], some (38, true)⟩, ⟨some 42, .call (.func 35) [(.tmp 39), (.tmp 41)], some (38, true)⟩, ⟨some 43, .pick (.tmp 38) (.tmp 42) (.const (.bool false)),
    none⟩, ⟨some 44, .mv (.tmp 43), none⟩, ⟨some 45, .mv (.tmp 4), some (44, true)⟩, ⟨some 46, .bin .eql (.tmp 45) (.const (.int .i64 0)), some (44, true)⟩, ⟨some 47, .pick (.tmp
    44) (.tmp 46) (.const (.bool false)), none⟩, ⟨some 48, .mv (.tmp 47), none⟩, ⟨some 49, .mv (.tmp 3), some (48, true)⟩, ⟨some 50, .bin .eql (.tmp 49) (.const (.int .i64 170)),
    some (48, true)⟩, ⟨some 51, .pick (.tmp 48) (.tmp 50) (.const (.bool false)), none⟩, ⟨some 52, .mv (.tmp 51), none⟩, ⟨some 53, .mv (.tmp 7), some (52, true)⟩, ⟨some 54, .bin
    .eql (.tmp 53) (.const (.int .i64 0)), some (52, true)⟩, ⟨some 55, .pick (.tmp 52) (.tmp 54) (.const (.bool false)), none⟩, ⟨some 56, .mv (.tmp 55), none⟩, ⟨some 57, .mv (.tmp
    5), some (56, true)⟩, ⟨some 58, .lit false 3 1 [(.const (.int .i64 0)), (.const (.int .i64 2))], some (56, true)⟩, ⟨some 59, .call (.func 18) [(.tmp 57), (.tmp 58)], some (56,
    true)⟩, ⟨some 60, .pick (.tmp 56) (.tmp 59) (.const (.bool false)), none⟩, ⟨some 61, .mv (.tmp 60), none⟩, ⟨some 62, .mv (.tmp 6), some (61, true)⟩, ⟨some 63, .bin .eql (.tmp
    62) (.const (.int .i64 90)), some (61, true)⟩, ⟨some 64, .pick (.tmp 61) (.tmp 63) (.const (.bool false)), none⟩, ⟨some 65, .mv (.tmp 64), none⟩, ⟨some 66, .mv (.tmp 9), some
    (65, true)⟩, ⟨some 67, .bin .eql (.tmp 66) (.const (.int .i64 0)), some (65, true)⟩, ⟨some 68, .pick (.tmp 65) (.tmp 67) (.const (.bool false)), none⟩, ⟨some 69, .mv (.tmp 68),
    none⟩, ⟨some 70, .mv (.tmp 8), some (69, true)⟩, ⟨some 71, .lit false 3 1 [(.const (.int .i64 0)), (.const (.int .i64 1)), (.const (.int .i64 2))], some (69, true)⟩, ⟨some 72,
    .call (.func 18) [(.tmp 70), (.tmp 71)], some (69, true)⟩, ⟨some 73, .pick (.tmp 69) (.tmp 72) (.const (.bool false)), none⟩, ⟨some 0, .mv (.tmp 73), none⟩]) .ret))))))
theorem low8 : lowF Tryz.prog [] Tryz.f8 = some (74, lc8.strip, [.tmp 0]) := by kernel_rfl
theorem fn8 : FnOk Tryz.prog 8 74 lc8 [.tmp 0] := ⟨Tryz.call8, [], _, Tryz.func8, low8⟩
/-- moonpool/moonpoollaw08.Few -/
def lc9 : LCode :=
  (.seq (.region [⟨some 1, .boxS (.tmp 0), none⟩, ⟨some 2, .mv (.const (.bool false)), none⟩]) (.seq (.seq (.region [⟨some 4, .fld 0 (.tmp 1), none⟩, ⟨some 5, .load false 1 (.tmp
    4), none⟩, ⟨some 6, .call (.func 51) [(.tmp 5)], none⟩, ⟨some 7, .un .not (.tmp 6), none⟩, ⟨some 8, .mv (.tmp 7), none⟩, ⟨some 9, .fld 2 (.tmp 1), some (8, false)⟩, ⟨some 10,
    .load false 1 (.tmp 9), some (8, false)⟩, ⟨some 11, .len (.tmp 10), some (8, false)⟩, ⟨some 12, .bin .gtr (.tmp 11) (.const (.int .i64 7)), some (8, false)⟩, ⟨some 13, .pick
    (.tmp 8) (.const (.bool true)) (.tmp 12), none⟩, ⟨some 14, .mv (.tmp 13), none⟩, ⟨some 15, .fld 1 (.tmp 1), some (14, false)⟩, ⟨some 16, .load false 1 (.tmp 15), some (14,
    false)⟩, ⟨some 17, .len (.tmp 16), some (14, false)⟩, ⟨some 18, .bin .gtr (.tmp 17) (.const (.int .i64 7)), some (14, false)⟩, ⟨some 19, .pick (.tmp 14) (.const (.bool true))
    (.tmp 18), none⟩, ⟨some 20, .mv (.tmp 19), none⟩, ⟨some 21, .fld 3 (.tmp 1), some (20, false)⟩, ⟨some 22, .load false 1 (.tmp 21), some (20, false)⟩, ⟨some 23, .len (.tmp 22),
    some (20, false)⟩, ⟨some 24, .bin .gtr (.tmp 23) (.const (.int .i64 8)), some (20, false)⟩, ⟨some 25, .pick (.tmp 20) (.const (.bool true)) (.tmp 24), none⟩]) (.cond (.tmp 25)
    (.seq (.region [⟨some 2, .mv (.const (.bool false)), none⟩]) .ret) .skip)) (.seq (.seq (.region [⟨some 3, .mv (.const (.int .i64 0)), none⟩]) (.block 0 (.loop (.seq (.seq
    (.region [⟨some 26, .mv (.tmp 3), none⟩, ⟨some 27, .fld 1 (.tmp 1), none⟩, ⟨some 28, .load false 1 (.tmp 27), none⟩, ⟨some 29, .len (.tmp 28), none⟩, ⟨some 30, .bin .lss (.tmp
    26) (.tmp 29), none⟩]) (.cond (.tmp 30) .skip (.exit 0))) (.seq (.block 1 (.seq (.region [⟨some 33, .fld 1 (.tmp 1), none⟩, ⟨some 34, .load false 1 (.tmp 33), none⟩, ⟨some 35,
    .mv (.tmp 3), none⟩, ⟨some 36, .idx 1 (.tmp 34) (.tmp 35), none⟩, ⟨some 37, .load false 1 (.tmp 36), none⟩, ⟨some 38, .len (.tmp 37), none⟩, ⟨some 39, .bin .gtr (.tmp 38)
    (.const (.int .i64 7)), none⟩]) (.cond (.tmp 39) (.seq (.region [⟨some 2, .mv (.const (.bool false)), none⟩]) .ret) .skip))) (.region [⟨some 31, .mv (.tmp 3), none⟩, ⟨some 32,
    .bin .add (.tmp 31) (.const (.int .i64 1)), none⟩, ⟨some 3, .mv (.tmp 32), none⟩])))))) (.seq (.region [⟨some 2, .mv (.const (.bool true)), none⟩]) .ret))))
theorem low9 : lowF Tryz.prog [1] Tryz.f9 = some (40, lc9.strip, [.tmp 2]) := by kernel_rfl
theorem fn9 : FnOk Tryz.prog 9 40 lc9 [.tmp 2] := ⟨Tryz.call9, [1], _, Tryz.func9, low9⟩
/-- moonpool/moonpoollaw08.fewState -/
def lc10 : LCode :=
  (.seq (.region [⟨some 1, .boxS (.tmp 0), none⟩, ⟨some 2, .mv (.const (.bool false)), none⟩]) (.seq (.region [⟨some 3, .fld 4 (.tmp 1), none⟩, ⟨some 4, .load false 1 (.tmp 3),
    none⟩, ⟨some 5, .len (.tmp 4), none⟩, ⟨some 6, .bin .leq (.tmp 5) (.const (.int .i64 8)), none⟩, ⟨some 2, .mv (.tmp 6), none⟩]) .ret))
theorem low10 : lowF Tryz.prog [1] Tryz.f10 = some (7, lc10.strip, [.tmp 2]) := by kernel_rfl
theorem fn10 : FnOk Tryz.prog 10 7 lc10 [.tmp 2] := ⟨Tryz.call10, [1], _, Tryz.func10, low10⟩
/-- moonpool/moonpoolref08.CopyState -/
def lc13 : LCode :=
  (.seq (.region [⟨some 1, .box (.tmp 0), none⟩, ⟨some 2, .alloc [(.int .i64 0), (.int .i64 0), (.int .i64 0), (.int .i64 0), (.slice none 0 0)], none⟩]) (.seq (.region [⟨some 3,
    .fld 4 (.tmp 1), none⟩, ⟨some 4, .load false 1 (.tmp 3), none⟩, ⟨some 5, .call (.func 14) [(.tmp 4)], none⟩, ⟨some 6, .fld 4 (.tmp 1), none⟩, ⟨none, .store 1 (.tmp 6) (.tmp 5),
    none⟩]) (.seq (.region [⟨some 7, .load true 5 (.tmp 1), none⟩, ⟨none, .store 5 (.tmp 2) (.tmp 7), none⟩]) .ret)))
theorem low13 : lowF Tryz.prog [] Tryz.f13 = some (8, lc13.strip, [.cell 2 true 5]) := by kernel_rfl
theorem fn13 : FnOk Tryz.prog 13 8 lc13 [.cell 2 true 5] := ⟨Tryz.call13, [], _, Tryz.func13, low13⟩
/-- moonpool/moonpoolbase.CopyInts -/
def lc14 : LCode :=
  (.seq (.region [⟨some 2, .mv (.const (.slice none 0 0)), none⟩]) (.seq (.region [⟨some 3, .lit false 3 1 [], none⟩, ⟨some 4, .mv (.tmp 0), none⟩, ⟨some 5, .append false 3 1 8
    (.tmp 3) (.tmp 4), none⟩, ⟨some 2, .mv (.tmp 5), none⟩]) .ret))
theorem low14 : lowF Tryz.prog [] Tryz.f14 = some (6, lc14.strip, [.tmp 2]) := by kernel_rfl
theorem fn14 : FnOk Tryz.prog 14 6 lc14 [.tmp 2] := ⟨Tryz.call14, [], _, Tryz.func14, low14⟩
/-- moonpool/dive.ClashOf -/
def lc15 : LCode :=
  (.seq (.region [⟨some 2, .boxS (.tmp 0), none⟩, ⟨some 3, .boxS (.tmp 1), none⟩, ⟨some 4, .mv (.const (.slice none 0 0)), none⟩, ⟨some 5, .mv (.const (.int .i64 0)), none⟩]) (.seq
    (.region [⟨some 14, .load true 8 (.tmp 2), none⟩, ⟨some 15, .load true 5 (.tmp 3), none⟩, ⟨some 16, .call (.func 52) [(.tmp 14), (.tmp 15)], none⟩, ⟨some 13, .mv (.tmp 16),
    none⟩, ⟨some 17, .ext (.tmp 13) 0, none⟩, ⟨some 18, .ext (.tmp 13) 1, none⟩, ⟨some 6, .alloc [(.slice none 0 0), (.slice none 0 0), (.slice none 0 0), (.slice none 0 0), (.int
    .i64 0), (.int .i64 0), (.int .i64 0), (.int .i64 0), (.int .i64 0), (.int .i64 0), (.int .i64 0), (.int .i64 0), (.slice none 0 0)], none⟩, ⟨none, .store 13 (.tmp 6) (.tmp 17),
    none⟩, ⟨some 7, .mv (.tmp 18), none⟩]) (.seq (.seq (.region [⟨some 19, .mv (.tmp 7), none⟩, ⟨some 20, .bin .neq (.tmp 19) (.const (.int .i64 0)), none⟩]) (.cond (.tmp 20) (.seq
    (.region [⟨some 21, .mv (.tmp 7), none⟩, ⟨some 4, .mv (.const (.slice none 0 0)), none⟩, ⟨some 5, .mv (.tmp 21), none⟩]) .ret) .skip)) (.seq (.region [⟨some 8, .mv (.const
    (.slice none 0 0)), none⟩]) (.seq (.seq (.region [⟨some 9, .mv (.const (.int .i64 1)), none⟩]) (.block 0 (.loop (.seq (.seq (.region [⟨some 22, .mv (.tmp 9), none⟩, ⟨some 23,
    .fld 0 (.tmp 2), none⟩, ⟨some 24, .load false 1 (.tmp 23), none⟩, ⟨some 25, .len (.tmp 24), none⟩, ⟨some 26, .bin .shl (.const (.int .i64 1)) (.tmp 25), none⟩, ⟨some 27, .bin
    .lss (.tmp 22) (.tmp 26), none⟩]) (.cond (.tmp 27) .skip (.exit 0))) (.seq (.block 1 (.seq (.region [⟨some 10, .mv (.const (.slice none 0 0)), none⟩]) (.seq (.seq (.region
    [⟨some 30, .fld 0 (.tmp 2), none⟩, ⟨some 31, .load false 1 (.tmp 30), none⟩, ⟨some 32, .len (.tmp 31), none⟩, ⟨some 33, .mv (.const (.int .i64 0)), none⟩]) (.block 2 (.loop
    (.seq (.region [⟨some 34, .bin .lss (.tmp 33) (.tmp 32), none⟩]) (.seq (.cond (.tmp 34) .skip (.exit 2)) (.seq (.block 3 (.seq (.region [⟨some 35, .mv (.tmp 33), none⟩, ⟨some
    11, .mv (.tmp 35), none⟩]) (.seq (.region [⟨some 36, .mv (.tmp 9), none⟩, ⟨some 37, .mv (.tmp 11), none⟩, ⟨some 38, .bin .shr (.tmp 36) (.tmp 37), none⟩, ⟨some 39, .bin .and
    (.tmp 38) (.const (.int .i64 1)), none⟩, ⟨some 40, .bin .eql (.tmp 39) (.const (.int .i64 1)), none⟩]) (.cond (.tmp 40) (.region [⟨some 41, .mv (.tmp 10), none⟩, ⟨some 42, .mv
    (.tmp 11), none⟩, ⟨some 43, .lit false 3 1 [(.tmp 42)], none⟩, ⟨some 44, .append true 3 1 8 (.tmp 41) (.tmp 43), none⟩, ⟨some 10, .mv (.tmp 44), none⟩]) .skip)))) (.region
    [⟨some 45, .bin .add (.tmp 33) (.const (.int .i64 1)), none⟩, ⟨some 33, .mv (.tmp 45), none⟩]))))))) (.seq (.region [⟨some 46, .mv (.tmp 8), none⟩, ⟨some 47, .isnil false (.tmp
    46), none⟩, ⟨some 48, .mv (.tmp 47), none⟩, ⟨some 49, .mv (.tmp 10), some (48, false)⟩, ⟨some 50, .len (.tmp 49), some (48, false)⟩, ⟨some 51, .mv (.tmp 8), some (48, false)⟩,
    ⟨some 52, .len (.tmp 51), some (48, false)⟩, ⟨some 53, .call (.func 61) [(.tmp 50), (.tmp 52)], some (48, false)⟩, ⟨some 54, .mv (.tmp 10), some (48, false)⟩, ⟨some 55, .mv
    (.tmp 8), some (48, false)⟩, ⟨some 56, .call (.func 62) [(.tmp 54), (.tmp 55)], some (48, false)⟩, ⟨some 57, .lit false 3 1 [(.tmp 53), (.tmp 56)], some (48, false)⟩, ⟨some 58,
    .call (.func 60) [(.tmp 57)], some (48, false)⟩, ⟨some 59, .bin .lss (.tmp 58) (.const (.int .i64 0)), some (48, false)⟩, ⟨some 60, .pick (.tmp 48) (.const (.bool true)) (.tmp
    59), none⟩, ⟨some 12, .mv (.tmp 60), none⟩]) (.seq (.region [⟨some 61, .mv (.tmp 12), none⟩, ⟨some 62, .mv (.tmp 61), none⟩, ⟨some 63, .mv (.tmp 10), some (62, true)⟩, ⟨some 64,
    .load true 13 (.tmp 6), some (62, true)⟩, ⟨some 65, .mkfnB 57 (.tmp 64), some (62, true)⟩, ⟨some 66, .call (.func 56) [(.tmp 63), (.tmp 65)], some (62, true)⟩, ⟨some 67, .un
    .not (.tmp 66), some (62, true)⟩, ⟨some 68, .pick (.tmp 62) (.tmp 67) (.const (.bool false)), none⟩, ⟨some 69, .mv (.tmp 68), none⟩, ⟨some 70, .load true 13 (.tmp 6), some (69,
    true)⟩, ⟨some 71, .mv (.tmp 10), some (69, true)⟩, ⟨some 72, .call (.func 58) [(.tmp 70), (.tmp 71)], some (69, true)⟩, ⟨some 73, .un .not (.tmp 72), some (69, true)⟩, ⟨some 74,
    .pick (.tmp 69) (.tmp 73) (.const (.bool false)), none⟩]) (.cond (.tmp 74) (.region [⟨some 75, .mv (.tmp 10), none⟩, ⟨some 8, .mv (.tmp 75), none⟩]) .skip)))))) (.region [⟨some
    28, .mv (.tmp 9), none⟩, ⟨some 29, .bin .add (.tmp 28) (.const (.int .i64 1)), none⟩, ⟨some 9, .mv (.tmp 29), none⟩])))))) (.seq (.region [⟨some 76, .mv (.tmp 8), none⟩, ⟨some
    77, .mv (.tmp 8), none⟩, ⟨some 78, .isnil true (.tmp 77), none⟩, ⟨some 79, .call (.func 55) [(.tmp 78), (.const (.int .i64 12))], none⟩, ⟨some 4, .mv (.tmp 76), none⟩, ⟨some 5,
    .mv (.tmp 79), none⟩]) .ret))))))
theorem low15 : lowF Tryz.prog [2, 3, 44] Tryz.f15 = some (80, lc15.strip, [.tmp 4, .tmp 5]) := by kernel_rfl
theorem fn15 : FnOk Tryz.prog 15 80 lc15 [.tmp 4, .tmp 5] := ⟨Tryz.call15, [2, 3, 44], _, Tryz.func15, low15⟩
/-- moonpool/moonpoollaw08.both -/
def lc16 : LCode :=
  (.seq (.region [⟨some 2, .boxS (.tmp 0), none⟩, ⟨some 3, .boxS (.tmp 1), none⟩, ⟨some 4, .mv (.const (.int .i64 0)), none⟩]) (.seq (.seq (.region [⟨some 6, .load true 8 (.tmp 2),
    none⟩, ⟨some 7, .call (.func 25) [(.tmp 6)], none⟩, ⟨some 5, .mv (.tmp 7), none⟩]) (.seq (.region [⟨some 8, .mv (.tmp 5), none⟩, ⟨some 9, .bin .neq (.tmp 8) (.const (.int .i64
    0)), none⟩]) (.cond (.tmp 9) (.seq (.region [⟨some 10, .mv (.tmp 5), none⟩, ⟨some 4, .mv (.tmp 10), none⟩]) .ret) .skip))) (.seq (.region [⟨some 11, .load true 8 (.tmp 2),
    none⟩, ⟨some 12, .load true 5 (.tmp 3), none⟩, ⟨some 13, .call (.func 63) [(.tmp 11), (.tmp 12)], none⟩, ⟨some 4, .mv (.tmp 13), none⟩]) .ret)))
theorem low16 : lowF Tryz.prog [2, 3] Tryz.f16 = some (14, lc16.strip, [.tmp 4]) := by kernel_rfl
theorem fn16 : FnOk Tryz.prog 16 14 lc16 [.tmp 4] := ⟨Tryz.call16, [2, 3], _, Tryz.func16, low16⟩
/-- moonpool/moonpoolbase.Ints -/
def lc18 : LCode :=
  (.seq (.region [⟨some 4, .mv (.const (.bool false)), none⟩]) (.seq (.seq (.region [⟨some 6, .mv (.tmp 0), none⟩, ⟨some 7, .len (.tmp 6), none⟩, ⟨some 8, .mv (.tmp 1), none⟩, ⟨some
    9, .len (.tmp 8), none⟩, ⟨some 10, .bin .neq (.tmp 7) (.tmp 9), none⟩]) (.cond (.tmp 10) (.seq (.region [⟨some 4, .mv (.const (.bool false)), none⟩]) .ret) .skip)) (.seq (.seq
    (.region [⟨some 5, .mv (.const (.int .i64 0)), none⟩]) (.block 0 (.loop (.seq (.seq (.region [⟨some 11, .mv (.tmp 5), none⟩, ⟨some 12, .mv (.tmp 0), none⟩, ⟨some 13, .len (.tmp
    12), none⟩, ⟨some 14, .bin .lss (.tmp 11) (.tmp 13), none⟩]) (.cond (.tmp 14) .skip (.exit 0))) (.seq (.block 1 (.seq (.regionD [⟨some 17, .mv (.tmp 0), none⟩, ⟨some 18, .mv
    (.tmp 5), none⟩, ⟨some 19, .idx 1 (.tmp 17) (.tmp 18), none⟩, ⟨some 20, .load false 1 (.tmp 19), none⟩, ⟨some 21, .mv (.tmp 1), none⟩, ⟨some 22, .mv (.tmp 5), none⟩, ⟨some 23,
    .idx 1 (.tmp 21) (.tmp 22), none⟩, ⟨some 24, .load false 1 (.tmp 23), none⟩, ⟨some 25, .bin .neq (.tmp 20) (.tmp 24), none⟩] [0, 0, 3, 7, 0, 0, 48, 112, 255] [0, 1, 2, 3, 4, 5,
    6, 7, 8]) (.cond (.tmp 25) (.seq (.region [⟨some 4, .mv (.const (.bool false)), none⟩]) .ret) .skip))) (.region [⟨some 15, .mv (.tmp 5), none⟩, ⟨some 16, .bin .add (.tmp 15)
    (.const (.int .i64 1)), none⟩, ⟨some 5, .mv (.tmp 16), none⟩])))))) (.seq (.region [⟨some 4, .mv (.const (.bool true)), none⟩]) .ret))))
theorem low18 : lowF Tryz.prog [] Tryz.f18 = some (26, lc18.strip, [.tmp 4]) := by kernel_rfl
theorem fn18 : FnOk Tryz.prog 18 26 lc18 [.tmp 4] := ⟨Tryz.call18, [], _, Tryz.func18, low18⟩
/-- moonpool/moonpoolbase.Has -/
def lc20 : LCode :=
  (.seq (.region [⟨some 4, .mv (.const (.bool false)), none⟩]) (.seq (.seq (.region [⟨some 5, .mv (.const (.int .i64 0)), none⟩]) (.block 0 (.loop (.seq (.seq (.region [⟨some 6, .mv
    (.tmp 5), none⟩, ⟨some 7, .mv (.tmp 0), none⟩, ⟨some 8, .len (.tmp 7), none⟩, ⟨some 9, .bin .lss (.tmp 6) (.tmp 8), none⟩]) (.cond (.tmp 9) .skip (.exit 0))) (.seq (.block 1
    (.seq (.region [⟨some 12, .mv (.tmp 0), none⟩, ⟨some 13, .mv (.tmp 5), none⟩, ⟨some 14, .idx 1 (.tmp 12) (.tmp 13), none⟩, ⟨some 15, .load false 1 (.tmp 14), none⟩, ⟨some 16,
    .mv (.tmp 1), none⟩, ⟨some 17, .bin .eql (.tmp 15) (.tmp 16), none⟩]) (.cond (.tmp 17) (.seq (.region [⟨some 4, .mv (.const (.bool true)), none⟩]) .ret) .skip))) (.region [⟨some
    10, .mv (.tmp 5), none⟩, ⟨some 11, .bin .add (.tmp 10) (.const (.int .i64 1)), none⟩, ⟨some 5, .mv (.tmp 11), none⟩])))))) (.seq (.region [⟨some 4, .mv (.const (.bool false)),
    none⟩]) .ret)))
theorem low20 : lowF Tryz.prog [] Tryz.f20 = some (18, lc20.strip, [.tmp 4]) := by kernel_rfl
theorem fn20 : FnOk Tryz.prog 20 18 lc20 [.tmp 4] := ⟨Tryz.call20, [], _, Tryz.func20, low20⟩
/-- moonpool/dive.BestPlan -/
def lc22 : LCode :=
  (.seq (.region [⟨some 2, .boxS (.tmp 0), none⟩, ⟨some 3, .boxS (.tmp 1), none⟩, ⟨some 4, .mv (.const (.slice none 0 0)), none⟩, ⟨some 5, .mv (.const (.int .i64 0)), none⟩, ⟨some
    6, .mv (.const (.int .i64 0)), none⟩]) (.seq (.region [⟨some 12, .load true 8 (.tmp 2), none⟩, ⟨some 13, .load true 5 (.tmp 3), none⟩, ⟨some 14, .call (.func 66) [(.tmp 12),
    (.tmp 13)], none⟩, ⟨some 11, .mv (.tmp 14), none⟩, ⟨some 15, .ext (.tmp 11) 0, none⟩, ⟨some 16, .ext (.tmp 11) 1, none⟩, ⟨some 7, .alloc [(.slice none 0 0), (.slice none 0 0),
    (.slice none 0 0), (.slice none 0 0), (.int .i64 0), (.int .i64 0), (.int .i64 0), (.int .i64 0), (.int .i64 0), (.int .i64 0), (.int .i64 0), (.int .i64 0), (.slice none 0 0)],
    none⟩, ⟨none, .store 13 (.tmp 7) (.tmp 15), none⟩, ⟨some 8, .mv (.tmp 16), none⟩]) (.seq (.seq (.region [⟨some 17, .mv (.tmp 8), none⟩, ⟨some 18, .bin .neq (.tmp 17) (.const
    (.int .i64 0)), none⟩]) (.cond (.tmp 18) (.seq (.region [⟨some 19, .mv (.tmp 8), none⟩, ⟨some 4, .mv (.const (.slice none 0 0)), none⟩, ⟨some 5, .mv (.const (.int .i64 0)),
    none⟩, ⟨some 6, .mv (.tmp 19), none⟩]) .ret) .skip)) (.seq (.region [⟨some 21, .load true 13 (.tmp 7), none⟩, ⟨some 22, .call (.func 67) [(.tmp 21), (.func 68)], none⟩, ⟨some
    20, .mv (.tmp 22), none⟩, ⟨some 23, .ext (.tmp 20) 0, none⟩, ⟨some 24, .ext (.tmp 20) 1, none⟩, ⟨some 9, .mv (.tmp 23), none⟩, ⟨some 10, .mv (.tmp 24), none⟩]) (.seq (.region
    [⟨some 25, .mv (.tmp 9), none⟩, ⟨some 26, .mv (.tmp 10), none⟩, ⟨some 4, .mv (.tmp 25), none⟩, ⟨some 5, .mv (.tmp 26), none⟩, ⟨some 6, .mv (.const (.int .i64 0)), none⟩])
    .ret)))))
theorem low22 : lowF Tryz.prog [2, 3] Tryz.f22 = some (27, lc22.strip, [.tmp 4, .tmp 5, .tmp 6]) := by kernel_rfl
theorem fn22 : FnOk Tryz.prog 22 27 lc22 [.tmp 4, .tmp 5, .tmp 6] := ⟨Tryz.call22, [2, 3], _, Tryz.func22, low22⟩
/-- moonpool/dive.DependentsOf -/
def lc24 : LCode :=
  (.seq (.region [⟨some 2, .boxS (.tmp 0), none⟩, ⟨some 4, .mv (.const (.slice none 0 0)), none⟩, ⟨some 5, .mv (.const (.int .i64 0)), none⟩]) (.seq (.region [⟨some 12, .load true 8
    (.tmp 2), none⟩, ⟨some 13, .call (.func 73) [(.tmp 12)], none⟩, ⟨some 11, .mv (.tmp 13), none⟩, ⟨some 14, .ext (.tmp 11) 0, none⟩, ⟨some 15, .ext (.tmp 11) 1, none⟩, ⟨some 6,
    .mv (.tmp 14), none⟩, ⟨some 7, .mv (.tmp 15), none⟩]) (.seq (.seq (.region [⟨some 16, .mv (.tmp 7), none⟩, ⟨some 17, .mv (.tmp 1), none⟩, ⟨some 18, .fld 0 (.tmp 2), none⟩, ⟨some
    19, .load false 1 (.tmp 18), none⟩, ⟨some 20, .len (.tmp 19), none⟩, ⟨some 21, .bin .sub (.tmp 20) (.const (.int .i64 1)), none⟩, ⟨some 22, .call (.func 69) [(.tmp 17), (.const
    (.int .i64 0)), (.tmp 21)], none⟩, ⟨some 23, .call (.func 55) [(.tmp 22), (.const (.int .i64 6))], none⟩, ⟨some 24, .lit false 33 1 [(.tmp 16), (.tmp 23)], none⟩, ⟨some 25,
    .call (.func 54) [(.tmp 24)], none⟩, ⟨some 7, .mv (.tmp 25), none⟩]) (.seq (.region [⟨some 26, .mv (.tmp 7), none⟩, ⟨some 27, .bin .neq (.tmp 26) (.const (.int .i64 0)), none⟩])
    (.cond (.tmp 27) (.seq (.region [⟨some 28, .mv (.tmp 7), none⟩, ⟨some 4, .mv (.const (.slice none 0 0)), none⟩, ⟨some 5, .mv (.tmp 28), none⟩]) .ret) .skip))) (.seq (.region
    [⟨some 8, .mv (.const (.slice none 0 0)), none⟩]) (.seq (.seq (.region [⟨some 29, .load true 8 (.tmp 2), none⟩, ⟨some 30, .mv (.tmp 1), none⟩, ⟨some 31, .call (.func 71) [(.tmp
    29), (.tmp 30)], none⟩, ⟨some 32, .len (.tmp 31), none⟩, ⟨some 33, .mv (.const (.int .i64 0)), none⟩]) (.block 0 (.loop (.seq (.region [⟨some 34, .bin .lss (.tmp 33) (.tmp 32),
    none⟩]) (.seq (.cond (.tmp 34) .skip (.exit 0)) (.seq (.block 1 (.seq (.region [⟨some 35, .mv (.tmp 33), none⟩, ⟨some 36, .idx 1 (.tmp 31) (.tmp 33), none⟩, ⟨some 37, .load
    false 1 (.tmp 36), none⟩, ⟨some 9, .mv (.tmp 35), none⟩, ⟨some 10, .mv (.tmp 37), none⟩]) (.seq (.region [⟨some 38, .mv (.tmp 10), none⟩]) (.cond (.tmp 38) (.region [⟨some 39,
    .mv (.tmp 8), none⟩, ⟨some 40, .mv (.tmp 9), none⟩, ⟨some 41, .lit false 3 1 [(.tmp 40)], none⟩, ⟨some 42, .append true 3 1 8 (.tmp 39) (.tmp 41), none⟩, ⟨some 8, .mv (.tmp 42),
    none⟩]) .skip)))) (.region [⟨some 43, .bin .add (.tmp 33) (.const (.int .i64 1)), none⟩, ⟨some 33, .mv (.tmp 43), none⟩]))))))) (.seq (.region [⟨some 44, .mv (.tmp 8), none⟩,
    ⟨some 4, .mv (.tmp 44), none⟩, ⟨some 5, .mv (.const (.int .i64 0)), none⟩]) .ret))))))
theorem low24 : lowF Tryz.prog [2, 42] Tryz.f24 = some (45, lc24.strip, [.tmp 4, .tmp 5]) := by kernel_rfl
theorem fn24 : FnOk Tryz.prog 24 45 lc24 [.tmp 4, .tmp 5] := ⟨Tryz.call24, [2, 42], _, Tryz.func24, low24⟩
/-- moonpool/moonpoolref08.SiteErr -/
def lc25 : LCode :=
  (.seq (.region [⟨some 1, .boxS (.tmp 0), none⟩, ⟨some 2, .mv (.const (.int .i64 0)), none⟩]) (.seq (.region [⟨some 6, .load true 8 (.tmp 1), none⟩, ⟨some 7, .call (.func 74)
    [(.tmp 6)], none⟩, ⟨some 5, .mv (.tmp 7), none⟩, ⟨some 8, .ext (.tmp 5) 0, none⟩, ⟨some 9, .ext (.tmp 5) 1, none⟩, ⟨some 3, .mv (.tmp 8), none⟩, ⟨some 4, .mv (.tmp 9), none⟩])
    (.seq (.region [⟨some 10, .mv (.tmp 4), none⟩, ⟨some 2, .mv (.tmp 10), none⟩]) .ret)))
theorem low25 : lowF Tryz.prog [1] Tryz.f25 = some (11, lc25.strip, [.tmp 2]) := by kernel_rfl
theorem fn25 : FnOk Tryz.prog 25 11 lc25 [.tmp 2] := ⟨Tryz.call25, [1], _, Tryz.func25, low25⟩
/-- moonpool/moonpoolref08.IsTask -/
def lc26 : LCode :=
  (.seq (.region [⟨some 2, .boxS (.tmp 0), none⟩, ⟨some 4, .mv (.const (.bool false)), none⟩]) (.seq (.region [⟨some 5, .mv (.tmp 1), none⟩, ⟨some 6, .fld 0 (.tmp 2), none⟩, ⟨some
    7, .load false 1 (.tmp 6), none⟩, ⟨some 8, .len (.tmp 7), none⟩, ⟨some 9, .bin .sub (.tmp 8) (.const (.int .i64 1)), none⟩, ⟨some 10, .call (.func 75) [(.tmp 5), (.const (.int
    .i64 0)), (.tmp 9)], none⟩, ⟨some 4, .mv (.tmp 10), none⟩]) .ret))
theorem low26 : lowF Tryz.prog [2] Tryz.f26 = some (11, lc26.strip, [.tmp 4]) := by kernel_rfl
theorem fn26 : FnOk Tryz.prog 26 11 lc26 [.tmp 4] := ⟨Tryz.call26, [2], _, Tryz.func26, low26⟩
/-- moonpool/moonpoolref08.Can -/
def lc28 : LCode :=
  (.seq (.region [⟨some 2, .boxS (.tmp 0), none⟩, ⟨some 3, .boxS (.tmp 1), none⟩, ⟨some 4, .mv (.const (.bool false)), none⟩]) (.seq (.region [⟨some 6, .load true 8 (.tmp 2), none⟩,
    ⟨some 7, .load true 5 (.tmp 3), none⟩, ⟨some 8, .call (.func 76) [(.tmp 6), (.tmp 7)], none⟩, ⟨some 5, .alloc [(.int .i64 0), (.int .i64 0)], none⟩, ⟨none, .store 2 (.tmp 5)
    (.tmp 8), none⟩]) (.seq (.region [⟨some 9, .fld 2 (.tmp 3), none⟩, ⟨some 10, .load false 1 (.tmp 9), none⟩, ⟨some 11, .fld 1 (.tmp 5), none⟩, ⟨some 12, .load false 1 (.tmp 11),
    none⟩, ⟨some 13, .bin .sub (.tmp 10) (.tmp 12), none⟩, ⟨some 14, .fld 6 (.tmp 2), none⟩, ⟨some 15, .load false 1 (.tmp 14), none⟩, ⟨some 16, .bin .geq (.tmp 13) (.tmp 15),
    none⟩, ⟨some 17, .mv (.tmp 16), none⟩, ⟨some 18, .fld 1 (.tmp 3), some (17, true)⟩, ⟨some 19, .load false 1 (.tmp 18), some (17, true)⟩, ⟨some 20, .fld 0 (.tmp 5), some (17,
    true)⟩, ⟨some 21, .load false 1 (.tmp 20), some (17, true)⟩, ⟨some 22, .bin .add (.tmp 19) (.tmp 21), some (17, true)⟩, ⟨some 23, .fld 7 (.tmp 2), some (17, true)⟩, ⟨some 24,
    .load false 1 (.tmp 23), some (17, true)⟩, ⟨some 25, .bin .leq (.tmp 22) (.tmp 24), some (17, true)⟩, ⟨some 26, .pick (.tmp 17) (.tmp 25) (.const (.bool false)), none⟩, ⟨some 4,
    .mv (.tmp 26), none⟩]) .ret)))
theorem low28 : lowF Tryz.prog [2, 3] Tryz.f28 = some (27, lc28.strip, [.tmp 4]) := by kernel_rfl
theorem fn28 : FnOk Tryz.prog 28 27 lc28 [.tmp 4] := ⟨Tryz.call28, [2, 3], _, Tryz.func28, low28⟩
/-- moonpool/dive.StepBy -/
def lc30 : LCode :=
  (.seq (.region [⟨some 3, .boxS (.tmp 0), none⟩, ⟨some 4, .boxS (.tmp 1), none⟩, ⟨some 6, .alloc [(.int .i64 0), (.int .i64 0), (.int .i64 0), (.int .i64 0), (.slice none 0 0)],
    none⟩, ⟨some 7, .mv (.const (.int .i64 0)), none⟩]) (.seq (.region [⟨some 11, .load true 8 (.tmp 3), none⟩, ⟨some 12, .load true 5 (.tmp 4), none⟩, ⟨some 13, .call (.func 52)
    [(.tmp 11), (.tmp 12)], none⟩, ⟨some 10, .mv (.tmp 13), none⟩, ⟨some 14, .ext (.tmp 10) 0, none⟩, ⟨some 15, .ext (.tmp 10) 1, none⟩, ⟨some 8, .alloc [(.slice none 0 0), (.slice
    none 0 0), (.slice none 0 0), (.slice none 0 0), (.int .i64 0), (.int .i64 0), (.int .i64 0), (.int .i64 0), (.int .i64 0), (.int .i64 0), (.int .i64 0), (.int .i64 0), (.slice
    none 0 0)], none⟩, ⟨none, .store 13 (.tmp 8) (.tmp 14), none⟩, ⟨some 9, .mv (.tmp 15), none⟩]) (.seq (.seq (.region [⟨some 16, .mv (.tmp 9), none⟩, ⟨some 17, .bin .eql (.tmp 16)
    (.const (.int .i64 0)), none⟩]) (.cond (.tmp 17) (.region [⟨some 19, .load true 13 (.tmp 8), none⟩, ⟨some 20, .mv (.tmp 2), none⟩, ⟨some 21, .call (.func 78) [(.tmp 19), (.tmp
    20)], none⟩, ⟨some 18, .mv (.tmp 21), none⟩, ⟨some 22, .ext (.tmp 18) 0, none⟩, ⟨some 23, .ext (.tmp 18) 1, none⟩, ⟨none, .store 13 (.tmp 8) (.tmp 22), none⟩, ⟨some 9, .mv (.tmp
    23), none⟩]) .skip)) (.seq (.seq (.region [⟨some 24, .mv (.tmp 9), none⟩, ⟨some 25, .bin .neq (.tmp 24) (.const (.int .i64 0)), none⟩]) (.cond (.tmp 25) (.seq (.region [⟨some
    26, .build [(.int .i64 0), (.int .i64 0), (.int .i64 0), (.int .i64 0), (.slice none 0 0)] [], none⟩, ⟨some 27, .mv (.tmp 9), none⟩, ⟨none, .store 5 (.tmp 6) (.tmp 26), none⟩,
    ⟨some 7, .mv (.tmp 27), none⟩]) .ret) .skip)) (.seq (.region [⟨some 28, .fld 8 (.tmp 8), none⟩, ⟨some 29, .load true 5 (.tmp 28), none⟩, ⟨none, .store 5 (.tmp 6) (.tmp 29),
    none⟩, ⟨some 7, .mv (.const (.int .i64 0)), none⟩]) .ret)))))
theorem low30 : lowF Tryz.prog [3, 4] Tryz.f30 = some (30, lc30.strip, [.cell 6 true 5, .tmp 7]) := by kernel_rfl
theorem fn30 : FnOk Tryz.prog 30 30 lc30 [.cell 6 true 5, .tmp 7] := ⟨Tryz.call30, [3, 4], _, Tryz.func30, low30⟩
end Go.Pw

set_option linter.unusedVariables false
set_option maxHeartbeats 2000000
set_option maxRecDepth 100000
namespace Go.Pw
open Go Go.Proofs
/-- moonpool/dive.CheckPlan -/
def lc32 : LCode :=
  (.seq (.region [⟨some 3, .boxS (.tmp 0), none⟩, ⟨some 4, .boxS (.tmp 1), none⟩, ⟨some 6, .mv (.const (.int .i64 0)), none⟩, ⟨some 7, .mv (.const (.int .i64 0)), none⟩]) (.seq
    (.region [⟨some 12, .load true 8 (.tmp 3), none⟩, ⟨some 13, .load true 5 (.tmp 4), none⟩, ⟨some 14, .call (.func 52) [(.tmp 12), (.tmp 13)], none⟩, ⟨some 11, .mv (.tmp 14),
    none⟩, ⟨some 15, .ext (.tmp 11) 0, none⟩, ⟨some 16, .ext (.tmp 11) 1, none⟩, ⟨some 8, .alloc [(.slice none 0 0), (.slice none 0 0), (.slice none 0 0), (.slice none 0 0), (.int
    .i64 0), (.int .i64 0), (.int .i64 0), (.int .i64 0), (.int .i64 0), (.int .i64 0), (.int .i64 0), (.int .i64 0), (.slice none 0 0)], none⟩, ⟨none, .store 13 (.tmp 8) (.tmp 15),
    none⟩, ⟨some 9, .mv (.tmp 16), none⟩]) (.seq (.seq (.region [⟨some 17, .mv (.tmp 9), none⟩, ⟨some 18, .bin .neq (.tmp 17) (.const (.int .i64 0)), none⟩]) (.cond (.tmp 18) (.seq
    (.region [⟨some 19, .mv (.tmp 9), none⟩, ⟨some 6, .mv (.const (.int .i64 0)), none⟩, ⟨some 7, .mv (.tmp 19), none⟩]) .ret) .skip)) (.seq (.region [⟨some 21, .load true 13 (.tmp
    8), none⟩, ⟨some 22, .mv (.tmp 2), none⟩, ⟨some 23, .call (.func 79) [(.tmp 21), (.tmp 22)], none⟩, ⟨some 20, .mv (.tmp 23), none⟩, ⟨some 24, .ext (.tmp 20) 0, none⟩, ⟨some 25,
    .ext (.tmp 20) 1, none⟩, ⟨some 10, .mv (.tmp 24), none⟩, ⟨some 9, .mv (.tmp 25), none⟩]) (.seq (.seq (.region [⟨some 26, .mv (.tmp 9), none⟩, ⟨some 27, .bin .neq (.tmp 26)
    (.const (.int .i64 0)), none⟩]) (.cond (.tmp 27) (.seq (.region [⟨some 28, .mv (.tmp 10), none⟩, ⟨some 29, .len (.tmp 28), none⟩, ⟨some 30, .bin .sub (.tmp 29) (.const (.int
    .i64 1)), none⟩, ⟨some 31, .mv (.tmp 9), none⟩, ⟨some 6, .mv (.tmp 30), none⟩, ⟨some 7, .mv (.tmp 31), none⟩]) .ret) .skip)) (.seq (.region [⟨some 32, .load true 8 (.tmp 3),
    none⟩, ⟨some 33, .mv (.tmp 2), none⟩, ⟨some 34, .call (.func 81) [(.tmp 32), (.tmp 33)], none⟩, ⟨some 6, .mv (.tmp 34), none⟩, ⟨some 7, .mv (.const (.int .i64 0)), none⟩])
    .ret))))))
theorem low32 : lowF Tryz.prog [3, 4] Tryz.f32 = some (35, lc32.strip, [.tmp 6, .tmp 7]) := by kernel_rfl
theorem fn32 : FnOk Tryz.prog 32 35 lc32 [.tmp 6, .tmp 7] := ⟨Tryz.call32, [3, 4], _, Tryz.func32, low32⟩
/-- moonpool/moonpoolref08.SameState -/
def lc35 : LCode :=
  (.seq (.region [⟨some 2, .boxS (.tmp 0), none⟩, ⟨some 3, .boxS (.tmp 1), none⟩, ⟨some 4, .mv (.const (.bool false)), none⟩]) (.seq (.region [⟨some 5, .fld 0 (.tmp 2), none⟩, ⟨some
    6, .load false 1 (.tmp 5), none⟩, ⟨some 7, .fld 0 (.tmp 3), none⟩, ⟨some 8, .load false 1 (.tmp 7), none⟩, ⟨some 9, .bin .eql (.tmp 6) (.tmp 8), none⟩, ⟨some 10, .mv (.tmp 9),
    none⟩, ⟨some 11, .fld 1 (.tmp 2), some (10, true)⟩, ⟨some 12, .load false 1 (.tmp 11), some (10, true)⟩, ⟨some 13, .fld 1 (.tmp 3), some (10, true)⟩, ⟨some 14, .load false 1
    (.tmp 13), some (10, true)⟩, ⟨some 15, .bin .eql (.tmp 12) (.tmp 14), some (10, true)⟩, ⟨some 16, .pick (.tmp 10) (.tmp 15) (.const (.bool false)), none⟩, ⟨some 17, .mv (.tmp
    16), none⟩, ⟨some 18, .fld 2 (.tmp 2), some (17, true)⟩, ⟨some 19, .load false 1 (.tmp 18), some (17, true)⟩, ⟨some 20, .fld 2 (.tmp 3), some (17, true)⟩, ⟨some 21, .load false
    1 (.tmp 20), some (17, true)⟩, ⟨some 22, .bin .eql (.tmp 19) (.tmp 21), some (17, true)⟩, ⟨some 23, .pick (.tmp 17) (.tmp 22) (.const (.bool false)), none⟩, ⟨some 24, .mv (.tmp
    23), none⟩, ⟨some 25, .fld 3 (.tmp 2), some (24, true)⟩, ⟨some 26, .load false 1 (.tmp 25), some (24, true)⟩, ⟨some 27, .fld 3 (.tmp 3), some (24, true)⟩, ⟨some 28, .load false
    1 (.tmp 27), some (24, true)⟩, ⟨some 29, .bin .eql (.tmp 26) (.tmp 28), some (24, true)⟩, ⟨some 30, .pick (.tmp 24) (.tmp 29) (.const (.bool false)), none⟩, ⟨some 31, .mv (.tmp
    30), none⟩, ⟨some 32, .fld 4 (.tmp 2), some (31, true)⟩, ⟨some 33, .load false 1 (.tmp 32), some (31, true)⟩, ⟨some 34, .fld 4 (.tmp 3), some (31, true)⟩, ⟨some 35, .load false
    1 (.tmp 34), some (31, true)⟩, ⟨some 36, .call (.func 18) [(.tmp 33), (.tmp 35)], some (31, true)⟩, ⟨some 37, .pick (.tmp 31) (.tmp 36) (.const (.bool false)), none⟩, ⟨some 4,
    .mv (.tmp 37), none⟩]) .ret))
theorem low35 : lowF Tryz.prog [2, 3] Tryz.f35 = some (38, lc35.strip, [.tmp 4]) := by kernel_rfl
theorem fn35 : FnOk Tryz.prog 35 38 lc35 [.tmp 4] := ⟨Tryz.call35, [2, 3], _, Tryz.func35, low35⟩
/-- moonpool/dive.BoundBy -/
def lc39 : LCode :=
  (.seq (.region [⟨some 3, .boxS (.tmp 0), none⟩, ⟨some 4, .boxS (.tmp 1), none⟩, ⟨some 5, .boxS (.tmp 2), none⟩, ⟨some 6, .alloc [(.int .i64 0), (.int .i64 0)], none⟩, ⟨some 7, .mv
    (.const (.int .i64 0)), none⟩]) (.seq (.region [⟨some 11, .load true 8 (.tmp 3), none⟩, ⟨some 12, .load true 5 (.tmp 4), none⟩, ⟨some 13, .call (.func 66) [(.tmp 11), (.tmp
    12)], none⟩, ⟨some 10, .mv (.tmp 13), none⟩, ⟨some 14, .ext (.tmp 10) 0, none⟩, ⟨some 15, .ext (.tmp 10) 1, none⟩, ⟨some 8, .alloc [(.slice none 0 0), (.slice none 0 0), (.slice
    none 0 0), (.slice none 0 0), (.int .i64 0), (.int .i64 0), (.int .i64 0), (.int .i64 0), (.int .i64 0), (.int .i64 0), (.int .i64 0), (.int .i64 0), (.slice none 0 0)], none⟩,
    ⟨none, .store 13 (.tmp 8) (.tmp 14), none⟩, ⟨some 9, .mv (.tmp 15), none⟩]) (.seq (.seq (.regionD [⟨some 16, .mv (.tmp 9), none⟩, ⟨some 17, .fld 1 (.tmp 5), none⟩, ⟨some 18,
    .load false 1 (.tmp 17), none⟩, ⟨some 19, .bin .gtr (.tmp 18) (.const (.int .i64 0)), none⟩, ⟨some 20, .mv (.tmp 19), none⟩, ⟨some 21, .fld 0 (.tmp 5), some (20, true)⟩, ⟨some
    22, .load false 1 (.tmp 21), some (20, true)⟩, ⟨some 23, .fld 1 (.tmp 5), some (20, true)⟩, ⟨some 24, .load false 1 (.tmp 23), some (20, true)⟩, ⟨some 25, .call (.func 83)
    [(.tmp 22), (.tmp 24)], some (20, true)⟩, ⟨some 26, .bin .eql (.tmp 25) (.const (.int .i64 1)), some (20, true)⟩, ⟨some 27, .pick (.tmp 20) (.tmp 26) (.const (.bool false)),
    none⟩, ⟨some 28, .call (.func 55) [(.tmp 27), (.const (.int .i64 3))], none⟩, ⟨some 29, .fld 0 (.tmp 5), none⟩, ⟨some 30, .load false 1 (.tmp 29), none⟩, ⟨some 31, .call (.func
    84) [(.tmp 30)], none⟩, ⟨some 32, .mv (.tmp 31), none⟩, ⟨some 33, .fld 1 (.tmp 5), some (32, true)⟩, ⟨some 34, .load false 1 (.tmp 33), some (32, true)⟩, ⟨some 35, .call (.func
    84) [(.tmp 34)], some (32, true)⟩, ⟨some 36, .pick (.tmp 32) (.tmp 35) (.const (.bool false)), none⟩, ⟨some 37, .call (.func 55) [(.tmp 36), (.const (.int .i64 2))], none⟩,
    ⟨some 38, .lit false 33 1 [(.tmp 16), (.tmp 28), (.tmp 37)], none⟩, ⟨some 39, .call (.func 54) [(.tmp 38)], none⟩, ⟨some 9, .mv (.tmp 39), none⟩] [0, 0, 2, 6, 14, 30, 62, 30,
    158, 510, 1022, 2046, 4094, 0, 8192, 32766, 65534, 131070, 262142, 524286, 1048574, 2097150, 4194303, 8388607, 16777215] [0, 1, 2, 3, 4, 5, 6, 7, 8, 9, 10, 11, 12, 13, 14, 15,
    16, 17, 18, 19, 20, 21, 22, 23, 24]) (.seq (.region [⟨some 40, .mv (.tmp 9), none⟩, ⟨some 41, .bin .neq (.tmp 40) (.const (.int .i64 0)), none⟩]) (.cond (.tmp 41) (.seq (.region
    [⟨some 42, .build [(.int .i64 0), (.int .i64 0)] [], none⟩, ⟨some 43, .mv (.tmp 9), none⟩, ⟨none, .store 2 (.tmp 6) (.tmp 42), none⟩, ⟨some 7, .mv (.tmp 43), none⟩]) .ret)
    .skip))) (.seq (.region [⟨some 44, .load true 13 (.tmp 8), none⟩, ⟨some 45, .load true 2 (.tmp 5), none⟩, ⟨some 46, .call (.func 85) [(.tmp 44), (.tmp 45)], none⟩, ⟨none, .store
    2 (.tmp 6) (.tmp 46), none⟩, ⟨some 7, .mv (.const (.int .i64 0)), none⟩]) .ret))))
theorem low39 : lowF Tryz.prog [3, 4, 5] Tryz.f39 = some (47, lc39.strip, [.cell 6 true 2, .tmp 7]) := by kernel_rfl
theorem fn39 : FnOk Tryz.prog 39 47 lc39 [.cell 6 true 2, .tmp 7] := ⟨Tryz.call39, [3, 4, 5], _, Tryz.func39, low39⟩
/-- moonpool/moonpoolref08.PriceErr -/
def lc42 : LCode :=
  (.seq (.region [⟨some 1, .boxS (.tmp 0), none⟩, ⟨some 2, .mv (.const (.int .i64 0)), none⟩]) (.seq (.seq (.region [⟨some 3, .load true 2 (.tmp 1), none⟩, ⟨some 4, .call (.func 44)
    [(.tmp 3)], none⟩, ⟨some 5, .un .not (.tmp 4), none⟩]) (.cond (.tmp 5) (.seq (.region [⟨some 2, .mv (.const (.int .i64 3)), none⟩]) .ret) .skip)) (.seq (.seq (.region [⟨some 6,
    .fld 0 (.tmp 1), none⟩, ⟨some 7, .load false 1 (.tmp 6), none⟩, ⟨some 8, .bin .lss (.tmp 7) (.const (.int .i64 0)), none⟩, ⟨some 9, .mv (.tmp 8), none⟩, ⟨some 10, .fld 0 (.tmp
    1), some (9, false)⟩, ⟨some 11, .load false 1 (.tmp 10), some (9, false)⟩, ⟨some 12, .bin .gtr (.tmp 11) (.const (.int .i64 10000)), some (9, false)⟩, ⟨some 13, .pick (.tmp 9)
    (.const (.bool true)) (.tmp 12), none⟩, ⟨some 14, .mv (.tmp 13), none⟩, ⟨some 15, .fld 1 (.tmp 1), some (14, false)⟩, ⟨some 16, .load false 1 (.tmp 15), some (14, false)⟩, ⟨some
    17, .bin .gtr (.tmp 16) (.const (.int .i64 10000)), some (14, false)⟩, ⟨some 18, .pick (.tmp 14) (.const (.bool true)) (.tmp 17), none⟩]) (.cond (.tmp 18) (.seq (.region [⟨some
    2, .mv (.const (.int .i64 2)), none⟩]) .ret) .skip)) (.seq (.region [⟨some 2, .mv (.const (.int .i64 0)), none⟩]) .ret))))
theorem low42 : lowF Tryz.prog [1] Tryz.f42 = some (19, lc42.strip, [.tmp 2]) := by kernel_rfl
theorem fn42 : FnOk Tryz.prog 42 19 lc42 [.tmp 2] := ⟨Tryz.call42, [1], _, Tryz.func42, low42⟩
/-- moonpool/moonpoolbase.IsLowest -/
def lc44 : LCode :=
  (.seq (.region [⟨some 1, .boxS (.tmp 0), none⟩, ⟨some 2, .mv (.const (.bool false)), none⟩]) (.seq (.region [⟨some 3, .fld 1 (.tmp 1), none⟩, ⟨some 4, .load false 1 (.tmp 3),
    none⟩, ⟨some 5, .bin .gtr (.tmp 4) (.const (.int .i64 0)), none⟩, ⟨some 6, .mv (.tmp 5), none⟩, ⟨some 7, .fld 0 (.tmp 1), some (6, true)⟩, ⟨some 8, .load false 1 (.tmp 7), some
    (6, true)⟩, ⟨some 9, .fld 1 (.tmp 1), some (6, true)⟩, ⟨some 10, .load false 1 (.tmp 9), some (6, true)⟩, ⟨some 11, .call (.func 91) [(.tmp 8), (.tmp 10)], some (6, true)⟩,
    ⟨some 12, .bin .eql (.tmp 11) (.const (.int .i64 1)), some (6, true)⟩, ⟨some 13, .pick (.tmp 6) (.tmp 12) (.const (.bool false)), none⟩, ⟨some 2, .mv (.tmp 13), none⟩]) .ret))
theorem low44 : lowF Tryz.prog [1] Tryz.f44 = some (14, lc44.strip, [.tmp 2]) := by kernel_rfl
theorem fn44 : FnOk Tryz.prog 44 14 lc44 [.tmp 2] := ⟨Tryz.call44, [1], _, Tryz.func44, low44⟩
/-- moonpool/moonpoolbase.Cmp -/
def lc45 : LCode :=
  (.seq (.region [⟨some 2, .boxS (.tmp 0), none⟩, ⟨some 3, .boxS (.tmp 1), none⟩, ⟨some 4, .mv (.const (.int .i64 0)), none⟩]) (.seq (.regionD [⟨some 7, .fld 0 (.tmp 2), none⟩,
    ⟨some 8, .load false 1 (.tmp 7), none⟩, ⟨some 9, .fld 1 (.tmp 3), none⟩, ⟨some 10, .load false 1 (.tmp 9), none⟩, ⟨some 11, .bin .mul (.tmp 8) (.tmp 10), none⟩, ⟨some 12, .fld 0
    (.tmp 3), none⟩, ⟨some 13, .load false 1 (.tmp 12), none⟩, ⟨some 14, .fld 1 (.tmp 2), none⟩, ⟨some 15, .load false 1 (.tmp 14), none⟩, ⟨some 16, .bin .mul (.tmp 13) (.tmp 15),
    none⟩, ⟨some 5, .mv (.tmp 11), none⟩, ⟨some 6, .mv (.tmp 16), none⟩] [0, 1, 0, 4, 15, 0, 32, 0, 128, 480, 31, 2047] [0, 1, 2, 3, 4, 5, 6, 7, 8, 9, 10, 11]) (.seq (.seq (.region
    [⟨some 17, .mv (.tmp 5), none⟩, ⟨some 18, .mv (.tmp 6), none⟩, ⟨some 19, .bin .lss (.tmp 17) (.tmp 18), none⟩]) (.cond (.tmp 19) (.seq (.region [⟨some 4, .mv (.const (.int .i64
    (-1))), none⟩]) .ret) .skip)) (.seq (.seq (.region [⟨some 20, .mv (.tmp 5), none⟩, ⟨some 21, .mv (.tmp 6), none⟩, ⟨some 22, .bin .gtr (.tmp 20) (.tmp 21), none⟩]) (.cond (.tmp
    22) (.seq (.region [⟨some 4, .mv (.const (.int .i64 1)), none⟩]) .ret) .skip)) (.seq (.region [⟨some 4, .mv (.const (.int .i64 0)), none⟩]) .ret)))))
theorem low45 : lowF Tryz.prog [2, 3] Tryz.f45 = some (23, lc45.strip, [.tmp 4]) := by kernel_rfl
theorem fn45 : FnOk Tryz.prog 45 23 lc45 [.tmp 4] := ⟨Tryz.call45, [2, 3], _, Tryz.func45, low45⟩
/-- moonpool/moonpoolbase.Before -/
def lc46 : LCode :=
  (.seq (.region [⟨some 4, .mv (.const (.bool false)), none⟩]) (.seq (.seq (.region [⟨some 5, .mv (.const (.int .i64 0)), none⟩]) (.block 0 (.loop (.seq (.seq (.region [⟨some 6, .mv
    (.tmp 5), none⟩, ⟨some 7, .mv (.tmp 0), none⟩, ⟨some 8, .len (.tmp 7), none⟩, ⟨some 9, .bin .lss (.tmp 6) (.tmp 8), none⟩, ⟨some 10, .mv (.tmp 9), none⟩, ⟨some 11, .mv (.tmp 5),
    some (10, true)⟩, ⟨some 12, .mv (.tmp 1), some (10, true)⟩, ⟨some 13, .len (.tmp 12), some (10, true)⟩, ⟨some 14, .bin .lss (.tmp 11) (.tmp 13), some (10, true)⟩, ⟨some 15,
    .pick (.tmp 10) (.tmp 14) (.const (.bool false)), none⟩]) (.cond (.tmp 15) .skip (.exit 0))) (.seq (.block 1 (.seq (.regionD [⟨some 18, .mv (.tmp 0), none⟩, ⟨some 19, .mv (.tmp
    5), none⟩, ⟨some 20, .idx 1 (.tmp 18) (.tmp 19), none⟩, ⟨some 21, .load false 1 (.tmp 20), none⟩, ⟨some 22, .mv (.tmp 1), none⟩, ⟨some 23, .mv (.tmp 5), none⟩, ⟨some 24, .idx 1
    (.tmp 22) (.tmp 23), none⟩, ⟨some 25, .load false 1 (.tmp 24), none⟩, ⟨some 26, .bin .neq (.tmp 21) (.tmp 25), none⟩] [0, 0, 3, 7, 0, 0, 48, 112, 255] [0, 1, 2, 3, 4, 5, 6, 7,
    8]) (.cond (.tmp 26) (.seq (.regionD [⟨some 27, .mv (.tmp 0), none⟩, ⟨some 28, .mv (.tmp 5), none⟩, ⟨some 29, .idx 1 (.tmp 27) (.tmp 28), none⟩, ⟨some 30, .load false 1 (.tmp
    29), none⟩, ⟨some 31, .mv (.tmp 1), none⟩, ⟨some 32, .mv (.tmp 5), none⟩, ⟨some 33, .idx 1 (.tmp 31) (.tmp 32), none⟩, ⟨some 34, .load false 1 (.tmp 33), none⟩, ⟨some 35, .bin
    .lss (.tmp 30) (.tmp 34), none⟩, ⟨some 4, .mv (.tmp 35), none⟩] [0, 0, 3, 7, 0, 0, 48, 112, 255, 511] [0, 1, 2, 3, 4, 5, 6, 7, 8, 9]) .ret) .skip))) (.region [⟨some 16, .mv
    (.tmp 5), none⟩, ⟨some 17, .bin .add (.tmp 16) (.const (.int .i64 1)), none⟩, ⟨some 5, .mv (.tmp 17), none⟩])))))) (.seq (.region [⟨some 36, .mv (.tmp 0), none⟩, ⟨some 37, .len
    (.tmp 36), none⟩, ⟨some 38, .mv (.tmp 1), none⟩, ⟨some 39, .len (.tmp 38), none⟩, ⟨some 40, .bin .lss (.tmp 37) (.tmp 39), none⟩, ⟨some 4, .mv (.tmp 40), none⟩]) .ret)))
theorem low46 : lowF Tryz.prog [] Tryz.f46 = some (41, lc46.strip, [.tmp 4]) := by kernel_rfl
theorem fn46 : FnOk Tryz.prog 46 41 lc46 [.tmp 4] := ⟨Tryz.call46, [], _, Tryz.func46, low46⟩
/-- moonpool/moonpoolbase.Mod -/
def lc47 : LCode :=
  (.seq (.region [⟨some 4, .mv (.const (.int .i64 0)), none⟩]) (.seq (.region [⟨some 5, .mv (.tmp 0), none⟩, ⟨some 6, .mv (.tmp 1), none⟩, ⟨some 7, .bin .rem (.tmp 5) (.tmp 6),
    none⟩, ⟨some 0, .mv (.tmp 7), none⟩]) (.seq (.seq (.region [⟨some 8, .mv (.tmp 0), none⟩, ⟨some 9, .bin .lss (.tmp 8) (.const (.int .i64 0)), none⟩]) (.cond (.tmp 9) (.region
    [⟨some 10, .mv (.tmp 0), none⟩, ⟨some 11, .mv (.tmp 1), none⟩, ⟨some 12, .bin .add (.tmp 10) (.tmp 11), none⟩, ⟨some 0, .mv (.tmp 12), none⟩]) .skip)) (.seq (.region [⟨some 13,
    .mv (.tmp 0), none⟩, ⟨some 4, .mv (.tmp 13), none⟩]) .ret))))
theorem low47 : lowF Tryz.prog [] Tryz.f47 = some (14, lc47.strip, [.tmp 4]) := by kernel_rfl
theorem fn47 : FnOk Tryz.prog 47 14 lc47 [.tmp 4] := ⟨Tryz.call47, [], _, Tryz.func47, low47⟩
/-- moonpool/moonpoollaw08.Site -/
def lc48 : LCode :=
  (.seq (.region [⟨some 0, .alloc [(.slice none 0 0), (.slice none 0 0), (.slice none 0 0), (.slice none 0 0), (.int .i64 0), (.int .i64 0), (.int .i64 0), (.int .i64 0)], none⟩])
    (.seq (.region [⟨some 1, .build [(.int .i64 0), (.int .i64 0)] [(0, 1, (.const (.int .i64 0))), (1, 1, (.const (.int .i64 300)))], none⟩, ⟨some 2, .build [(.string ⟨#[]⟩), (.int
    .i64 0), (.int .i64 0), (.int .i64 0), (.int .i64 0), (.int .i64 0), (.int .i64 0), (.int .i64 0), (.slice none 0 0)] [(0, 1, (.const (.string ⟨#[118, 97, 108, 118, 101]⟩))),
    (1, 1, (.const (.int .i64 1))), (2, 1, (.const (.int .i64 20))), (3, 1, (.const (.int .i64 30))), (4, 1, (.const (.int .i64 4))), (5, 1, (.const (.int .i64 50))), (6, 2, (.tmp
    1))], none⟩, ⟨some 3, .build [(.int .i64 0), (.int .i64 0)] [(0, 1, (.const (.int .i64 80))), (1, 1, (.const (.int .i64 90)))], none⟩, ⟨some 4, .build [(.string ⟨#[]⟩), (.int
    .i64 0), (.int .i64 0), (.int .i64 0), (.int .i64 0), (.int .i64 0), (.int .i64 0), (.int .i64 0), (.slice none 0 0)] [(0, 1, (.const (.string ⟨#[112, 114, 111, 98, 101]⟩))),
    (1, 1, (.const (.int .i64 2))), (2, 1, (.const (.int .i64 10))), (3, 1, (.const (.int .i64 10))), (4, 1, (.const (.int .i64 1))), (5, 1, (.const (.int .i64 30))), (6, 2, (.tmp
    3))], none⟩, ⟨some 5, .build [(.int .i64 0), (.int .i64 0)] [(0, 1, (.const (.int .i64 0))), (1, 1, (.const (.int .i64 400)))], none⟩, ⟨some 6, .lit false 3 1 [(.const (.int
    .i64 0))], none⟩, ⟨some 7, .build [(.string ⟨#[]⟩), (.int .i64 0), (.int .i64 0), (.int .i64 0), (.int .i64 0), (.int .i64 0), (.int .i64 0), (.int .i64 0), (.slice none 0 0)]
    [(0, 1, (.const (.string ⟨#[99, 108, 111, 115, 101]⟩))), (1, 1, (.const (.int .i64 1))), (2, 1, (.const (.int .i64 10))), (3, 1, (.const (.int .i64 20))), (4, 1, (.const (.int
    .i64 2))), (5, 1, (.const (.int .i64 40))), (6, 2, (.tmp 5)), (8, 1, (.tmp 6))], none⟩, ⟨some 8, .lit false 119 9 [(.tmp 2), (.tmp 4), (.tmp 7)], none⟩, ⟨some 9, .lit false 3 1
    [(.const (.int .i64 0)), (.const (.int .i64 10)), (.const (.int .i64 20))], none⟩, ⟨some 10, .lit false 3 1 [(.const (.int .i64 10)), (.const (.int .i64 0)), (.const (.int .i64
    10))], none⟩, ⟨some 11, .lit false 3 1 [(.const (.int .i64 20)), (.const (.int .i64 10)), (.const (.int .i64 0))], none⟩, ⟨some 12, .lit false 24 1 [(.tmp 9), (.tmp 10), (.tmp
    11)], none⟩, ⟨some 13, .lit false 3 1 [(.const (.int .i64 30)), (.const (.int .i64 40)), (.const (.int .i64 50))], none⟩, ⟨some 14, .build [(.int .i64 0), (.int .i64 0)] [(0, 1,
    (.const (.int .i64 100))), (1, 1, (.const (.int .i64 199)))], none⟩, ⟨some 15, .build [(.int .i64 0), (.int .i64 0), (.int .i64 0)] [(0, 2, (.tmp 14)), (2, 1, (.const (.int .i64
    5)))], none⟩, ⟨some 16, .lit false 134 3 [(.tmp 15)], none⟩, ⟨some 17, .build [(.slice none 0 0), (.slice none 0 0), (.slice none 0 0), (.slice none 0 0), (.int .i64 0), (.int
    .i64 0), (.int .i64 0), (.int .i64 0)] [(0, 1, (.tmp 8)), (1, 1, (.tmp 12)), (2, 1, (.tmp 13)), (3, 1, (.tmp 16)), (4, 1, (.const (.int .i64 1))), (5, 1, (.const (.int .i64
    2))), (6, 1, (.const (.int .i64 20))), (7, 1, (.const (.int .i64 400)))], none⟩, ⟨none, .store 8 (.tmp 0) (.tmp 17), none⟩]) .ret))
theorem low48 : lowF Tryz.prog [] Tryz.f48 = some (18, lc48.strip, [.cell 0 true 8]) := by kernel_rfl
theorem fn48 : FnOk Tryz.prog 48 18 lc48 [.cell 0 true 8] := ⟨Tryz.call48, [], _, Tryz.func48, low48⟩
/-- moonpool/moonpoollaw08.State -/
def lc49 : LCode :=
  (.seq (.region [⟨some 0, .alloc [(.int .i64 0), (.int .i64 0), (.int .i64 0), (.int .i64 0), (.slice none 0 0)], none⟩]) (.seq (.region [⟨some 1, .build [(.int .i64 0), (.int .i64
    0), (.int .i64 0), (.int .i64 0), (.slice none 0 0)] [(2, 1, (.const (.int .i64 300))), (3, 1, (.const (.int .i64 6)))], none⟩, ⟨none, .store 5 (.tmp 0) (.tmp 1), none⟩]) .ret))
theorem low49 : lowF Tryz.prog [] Tryz.f49 = some (2, lc49.strip, [.cell 0 true 5]) := by kernel_rfl
theorem fn49 : FnOk Tryz.prog 49 2 lc49 [.cell 0 true 5] := ⟨Tryz.call49, [], _, Tryz.func49, low49⟩
/-- moonpool/dive.LastReturn -/
def lc50 : LCode :=
  (.seq (.region [⟨some 2, .boxS (.tmp 0), none⟩, ⟨some 3, .boxS (.tmp 1), none⟩, ⟨some 4, .mv (.const (.int .i64 0)), none⟩, ⟨some 5, .mv (.const (.int .i64 0)), none⟩]) (.seq
    (.region [⟨some 10, .load true 8 (.tmp 2), none⟩, ⟨some 11, .load true 5 (.tmp 3), none⟩, ⟨some 12, .call (.func 52) [(.tmp 10), (.tmp 11)], none⟩, ⟨some 9, .mv (.tmp 12),
    none⟩, ⟨some 13, .ext (.tmp 9) 0, none⟩, ⟨some 14, .ext (.tmp 9) 1, none⟩, ⟨some 6, .alloc [(.slice none 0 0), (.slice none 0 0), (.slice none 0 0), (.slice none 0 0), (.int
    .i64 0), (.int .i64 0), (.int .i64 0), (.int .i64 0), (.int .i64 0), (.int .i64 0), (.int .i64 0), (.int .i64 0), (.slice none 0 0)], none⟩, ⟨none, .store 13 (.tmp 6) (.tmp 13),
    none⟩, ⟨some 7, .mv (.tmp 14), none⟩]) (.seq (.seq (.region [⟨some 15, .mv (.tmp 7), none⟩, ⟨some 16, .bin .neq (.tmp 15) (.const (.int .i64 0)), none⟩]) (.cond (.tmp 16) (.seq
    (.region [⟨some 17, .mv (.tmp 7), none⟩, ⟨some 4, .mv (.const (.int .i64 0)), none⟩, ⟨some 5, .mv (.tmp 17), none⟩]) .ret) .skip)) (.seq (.seq (.region [⟨some 18, .fld 0 (.tmp
    6), none⟩, ⟨some 19, .fld 7 (.tmp 18), none⟩, ⟨some 20, .load false 1 (.tmp 19), none⟩, ⟨some 8, .mv (.tmp 20), none⟩]) (.block 0 (.loop (.seq (.seq (.region [⟨some 21, .mv
    (.tmp 8), none⟩, ⟨some 22, .fld 8 (.tmp 6), none⟩, ⟨some 23, .fld 1 (.tmp 22), none⟩, ⟨some 24, .load false 1 (.tmp 23), none⟩, ⟨some 25, .bin .geq (.tmp 21) (.tmp 24), none⟩])
    (.cond (.tmp 25) .skip (.exit 0))) (.seq (.block 1 (.seq (.region [⟨some 28, .load true 13 (.tmp 6), none⟩, ⟨some 29, .mv (.tmp 8), none⟩, ⟨some 30, .call (.func 92) [(.tmp 28),
    (.tmp 29)], none⟩, ⟨some 31, .call (.func 70) [(.tmp 30)], none⟩]) (.cond (.tmp 31) (.seq (.region [⟨some 32, .mv (.tmp 8), none⟩, ⟨some 4, .mv (.tmp 32), none⟩, ⟨some 5, .mv
    (.const (.int .i64 0)), none⟩]) .ret) .skip))) (.region [⟨some 26, .mv (.tmp 8), none⟩, ⟨some 27, .bin .sub (.tmp 26) (.const (.int .i64 1)), none⟩, ⟨some 8, .mv (.tmp 27),
    none⟩])))))) (.seq (.region [⟨some 4, .mv (.const (.int .i64 0)), none⟩, ⟨some 5, .mv (.const (.int .i64 12)), none⟩]) .ret)))))
theorem low50 : lowF Tryz.prog [2, 3] Tryz.f50 = some (33, lc50.strip, [.tmp 4, .tmp 5]) := by kernel_rfl
theorem fn50 : FnOk Tryz.prog 50 33 lc50 [.tmp 4, .tmp 5] := ⟨Tryz.call50, [2, 3], _, Tryz.func50, low50⟩
/-- moonpool/moonpoollaw08.fewTasks -/
def lc51 : LCode :=
  (.seq (.region [⟨some 2, .mv (.const (.bool false)), none⟩]) (.seq (.seq (.region [⟨some 4, .mv (.tmp 0), none⟩, ⟨some 5, .len (.tmp 4), none⟩, ⟨some 6, .bin .gtr (.tmp 5) (.const
    (.int .i64 8)), none⟩]) (.cond (.tmp 6) (.seq (.region [⟨some 2, .mv (.const (.bool false)), none⟩]) .ret) .skip)) (.seq (.seq (.region [⟨some 3, .mv (.const (.int .i64 0)),
    none⟩]) (.block 0 (.loop (.seq (.seq (.region [⟨some 7, .mv (.tmp 3), none⟩, ⟨some 8, .mv (.tmp 0), none⟩, ⟨some 9, .len (.tmp 8), none⟩, ⟨some 10, .bin .lss (.tmp 7) (.tmp 9),
    none⟩]) (.cond (.tmp 10) .skip (.exit 0))) (.seq (.block 1 (.seq (.region [⟨some 13, .mv (.tmp 0), none⟩, ⟨some 14, .mv (.tmp 3), none⟩, ⟨some 15, .idx 9 (.tmp 13) (.tmp 14),
    none⟩, ⟨some 16, .fld 0 (.tmp 15), none⟩, ⟨some 17, .load false 1 (.tmp 16), none⟩, ⟨some 18, .lenS (.tmp 17), none⟩, ⟨some 19, .bin .gtr (.tmp 18) (.const (.int .i64 20)),
    none⟩, ⟨some 20, .mv (.tmp 19), none⟩, ⟨some 21, .mv (.tmp 0), some (20, false)⟩, ⟨some 22, .mv (.tmp 3), some (20, false)⟩, ⟨some 23, .idx 9 (.tmp 21) (.tmp 22), some (20,
    false)⟩, ⟨some 24, .fld 8 (.tmp 23), some (20, false)⟩, ⟨some 25, .load false 1 (.tmp 24), some (20, false)⟩, ⟨some 26, .len (.tmp 25), some (20, false)⟩, ⟨some 27, .bin .gtr
    (.tmp 26) (.const (.int .i64 8)), some (20, false)⟩, ⟨some 28, .pick (.tmp 20) (.const (.bool true)) (.tmp 27), none⟩]) (.cond (.tmp 28) (.seq (.region [⟨some 2, .mv (.const
    (.bool false)), none⟩]) .ret) .skip))) (.region [⟨some 11, .mv (.tmp 3), none⟩, ⟨some 12, .bin .add (.tmp 11) (.const (.int .i64 1)), none⟩, ⟨some 3, .mv (.tmp 12), none⟩]))))))
    (.seq (.region [⟨some 2, .mv (.const (.bool true)), none⟩]) .ret))))
theorem low51 : lowF Tryz.prog [] Tryz.f51 = some (29, lc51.strip, [.tmp 2]) := by kernel_rfl
theorem fn51 : FnOk Tryz.prog 51 29 lc51 [.tmp 2] := ⟨Tryz.call51, [], _, Tryz.func51, low51⟩
/-- moonpool/dive.open -/
def lc52 : LCode :=
  (.seq (.region [⟨some 2, .boxS (.tmp 0), none⟩, ⟨some 3, .boxS (.tmp 1), none⟩, ⟨some 4, .alloc [(.slice none 0 0), (.slice none 0 0), (.slice none 0 0), (.slice none 0 0), (.int
    .i64 0), (.int .i64 0), (.int .i64 0), (.int .i64 0), (.int .i64 0), (.int .i64 0), (.int .i64 0), (.int .i64 0), (.slice none 0 0)], none⟩, ⟨some 5, .mv (.const (.int .i64 0)),
    none⟩]) (.seq (.region [⟨some 11, .load true 8 (.tmp 2), none⟩, ⟨some 12, .call (.func 73) [(.tmp 11)], none⟩, ⟨some 10, .mv (.tmp 12), none⟩, ⟨some 13, .ext (.tmp 10) 0, none⟩,
    ⟨some 14, .ext (.tmp 10) 1, none⟩, ⟨some 6, .mv (.tmp 13), none⟩, ⟨some 7, .mv (.tmp 14), none⟩]) (.seq (.region [⟨some 16, .load true 8 (.tmp 2), none⟩, ⟨some 17, .load true 5
    (.tmp 3), none⟩, ⟨some 18, .call (.func 93) [(.tmp 16), (.tmp 17)], none⟩, ⟨some 15, .mv (.tmp 18), none⟩, ⟨some 19, .ext (.tmp 15) 0, none⟩, ⟨some 20, .ext (.tmp 15) 1, none⟩,
    ⟨some 8, .mv (.tmp 19), none⟩, ⟨some 9, .mv (.tmp 20), none⟩]) (.seq (.regionD [⟨some 21, .load true 8 (.tmp 2), none⟩, ⟨some 22, .load true 5 (.tmp 3), none⟩, ⟨some 23, .build
    [(.slice none 0 0), (.slice none 0 0), (.slice none 0 0), (.slice none 0 0), (.int .i64 0), (.int .i64 0), (.int .i64 0), (.int .i64 0), (.int .i64 0), (.int .i64 0), (.int .i64
    0), (.int .i64 0), (.slice none 0 0)] [(0, 8, (.tmp 21)), (8, 5, (.tmp 22))], none⟩, ⟨some 24, .mv (.tmp 7), none⟩, ⟨some 25, .mv (.tmp 9), none⟩, ⟨some 26, .lit false 33 1
    [(.tmp 24), (.tmp 25)], none⟩, ⟨some 27, .call (.func 54) [(.tmp 26)], none⟩, ⟨none, .store 13 (.tmp 4) (.tmp 23), none⟩, ⟨some 5, .mv (.tmp 27), none⟩] [0, 0, 3, 0, 0, 24, 56,
    127, 255] [0, 1, 2, 3, 4, 5, 6, 7, 8]) .ret))))
theorem low52 : lowF Tryz.prog [2, 3] Tryz.f52 = some (28, lc52.strip, [.cell 4 true 13, .tmp 5]) := by kernel_rfl
theorem fn52 : FnOk Tryz.prog 52 28 lc52 [.cell 4 true 13, .tmp 5] := ⟨Tryz.call52, [2, 3], _, Tryz.func52, low52⟩
/-- moonpool/dive.first -/
def lc54 : LCode :=
  (.seq (.region [⟨some 2, .mv (.const (.int .i64 0)), none⟩]) (.seq (.seq (.region [⟨some 5, .mv (.tmp 0), none⟩, ⟨some 6, .len (.tmp 5), none⟩, ⟨some 7, .mv (.const (.int .i64
    0)), none⟩]) (.block 0 (.loop (.seq (.region [⟨some 8, .bin .lss (.tmp 7) (.tmp 6), none⟩]) (.seq (.cond (.tmp 8) .skip (.exit 0)) (.seq (.block 1 (.seq (.region [⟨some 9, .idx
    1 (.tmp 5) (.tmp 7), none⟩, ⟨some 10, .load false 1 (.tmp 9), none⟩, ⟨some 4, .mv (.tmp 10), none⟩]) (.seq (.region [⟨some 11, .mv (.tmp 4), none⟩, ⟨some 12, .bin .neq (.tmp 11)
    (.const (.int .i64 0)), none⟩]) (.cond (.tmp 12) (.seq (.region [⟨some 13, .mv (.tmp 4), none⟩, ⟨some 2, .mv (.tmp 13), none⟩]) .ret) .skip)))) (.region [⟨some 14, .bin .add
    (.tmp 7) (.const (.int .i64 1)), none⟩, ⟨some 7, .mv (.tmp 14), none⟩]))))))) (.seq (.region [⟨some 2, .mv (.const (.int .i64 0)), none⟩]) .ret)))
theorem low54 : lowF Tryz.prog [] Tryz.f54 = some (15, lc54.strip, [.tmp 2]) := by kernel_rfl
theorem fn54 : FnOk Tryz.prog 54 15 lc54 [.tmp 2] := ⟨Tryz.call54, [], _, Tryz.func54, low54⟩
/-- moonpool/dive.unless -/
def lc55 : LCode :=
  (.seq (.region [⟨some 4, .mv (.const (.int .i64 0)), none⟩]) (.seq (.seq (.region [⟨some 5, .mv (.tmp 0), none⟩]) (.cond (.tmp 5) (.seq (.region [⟨some 4, .mv (.const (.int .i64
    0)), none⟩]) .ret) .skip)) (.seq (.region [⟨some 6, .mv (.tmp 1), none⟩, ⟨some 4, .mv (.tmp 6), none⟩]) .ret)))
theorem low55 : lowF Tryz.prog [] Tryz.f55 = some (7, lc55.strip, [.tmp 4]) := by kernel_rfl
theorem fn55 : FnOk Tryz.prog 55 7 lc55 [.tmp 4] := ⟨Tryz.call55, [], _, Tryz.func55, low55⟩
/-- slices.ContainsFunc[[]int,int] -/
def lc56 : LCode :=
  (.seq (.region [⟨some 4, .mv (.const (.bool false)), none⟩]) (.seq (.region [⟨some 5, .mv (.tmp 0), none⟩, ⟨some 6, .mv (.tmp 1), none⟩, ⟨some 7, .call (.func 97) [(.tmp 5), (.tmp
    6)], none⟩, ⟨some 8, .bin .geq (.tmp 7) (.const (.int .i64 0)), none⟩, ⟨some 4, .mv (.tmp 8), none⟩]) .ret))
theorem low56 : lowF Tryz.prog [] Tryz.f56 = some (9, lc56.strip, [.tmp 4]) := by kernel_rfl
theorem fn56 : FnOk Tryz.prog 56 9 lc56 [.tmp 4] := ⟨Tryz.call56, [], _, Tryz.func56, low56⟩
/-- (moonpool/dive.dive).has -/
def lc57 : LCode :=
  (.seq (.region [⟨some 2, .boxS (.tmp 0), none⟩, ⟨some 4, .mv (.const (.bool false)), none⟩]) (.seq (.region [⟨some 5, .fld 8 (.tmp 2), none⟩, ⟨some 6, .fld 4 (.tmp 5), none⟩,
    ⟨some 7, .load false 1 (.tmp 6), none⟩, ⟨some 8, .mv (.tmp 1), none⟩, ⟨some 9, .call (.func 96) [(.tmp 7), (.tmp 8)], none⟩, ⟨some 4, .mv (.tmp 9), none⟩]) .ret))
theorem low57 : lowF Tryz.prog [2] Tryz.f57 = some (10, lc57.strip, [.tmp 4]) := by kernel_rfl
theorem fn57 : FnOk Tryz.prog 57 10 lc57 [.tmp 4] := ⟨Tryz.call57, [2], _, Tryz.func57, low57⟩
/-- (moonpool/dive.dive).together -/
def lc58 : LCode :=
  (.seq (.region [⟨some 2, .boxS (.tmp 0), none⟩, ⟨some 4, .mv (.const (.bool false)), none⟩]) (.seq (.seq (.region [⟨some 11, .mv (.tmp 1), none⟩, ⟨some 12, .len (.tmp 11), none⟩,
    ⟨some 13, .bin .eql (.tmp 12) (.const (.int .i64 0)), none⟩]) (.cond (.tmp 13) (.seq (.region [⟨some 4, .mv (.const (.bool true)), none⟩]) .ret) .skip)) (.seq (.seq (.region
    [⟨some 14, .mv (.tmp 1), none⟩, ⟨some 15, .len (.tmp 14), none⟩, ⟨some 16, .mv (.const (.int .i64 0)), none⟩]) (.block 0 (.loop (.seq (.region [⟨some 17, .bin .lss (.tmp 16)
    (.tmp 15), none⟩]) (.seq (.cond (.tmp 17) .skip (.exit 0)) (.seq (.block 1 (.seq (.region [⟨some 18, .mv (.tmp 16), none⟩, ⟨some 19, .idx 1 (.tmp 14) (.tmp 16), none⟩, ⟨some 20,
    .load false 1 (.tmp 19), none⟩, ⟨some 5, .mv (.tmp 18), none⟩, ⟨some 6, .mv (.tmp 20), none⟩]) (.seq (.regionD [⟨some 21, .mv (.tmp 1), none⟩, ⟨some 22, .mv (.tmp 5), none⟩,
    ⟨some 23, .slc 1 (.tmp 21) none (some (.tmp 22)), none⟩, ⟨some 24, .mv (.tmp 1), none⟩, ⟨some 25, .mv (.tmp 5), none⟩, ⟨some 26, .bin .add (.tmp 25) (.const (.int .i64 1)),
    none⟩, ⟨some 27, .slc 1 (.tmp 24) (some (.tmp 26)) none, none⟩, ⟨some 28, .lit false 24 1 [(.tmp 23), (.tmp 27)], none⟩, ⟨some 29, .call (.func 98) [(.tmp 28)], none⟩, ⟨some 7,
    .alloc [(.slice none 0 0)], none⟩, ⟨none, .store 1 (.tmp 7) (.tmp 29), none⟩] [0, 0, 3, 0, 0, 16, 56, 127, 255, 0, 1023] [0, 1, 2, 3, 4, 5, 6, 7, 8, 9, 10]) (.seq (.region
    [⟨some 30, .fld 0 (.tmp 2), none⟩, ⟨some 31, .fld 0 (.tmp 30), none⟩, ⟨some 32, .load false 1 (.tmp 31), none⟩, ⟨some 33, .mv (.tmp 6), none⟩, ⟨some 34, .idx 9 (.tmp 32) (.tmp
    33), none⟩, ⟨some 35, .fld 8 (.tmp 34), none⟩, ⟨some 36, .load false 1 (.tmp 35), none⟩, ⟨some 37, .mkfn 99 [(.tmp 7)], none⟩, ⟨some 38, .call (.func 56) [(.tmp 36), (.tmp 37)],
    none⟩, ⟨some 8, .mv (.tmp 38), none⟩]) (.seq (.seq (.region [⟨some 39, .mv (.tmp 8), none⟩]) (.cond (.tmp 39) (.exit 1) .skip)) (.seq (.region [⟨some 41, .load true 13 (.tmp 2),
    none⟩, ⟨some 42, .mv (.tmp 6), none⟩, ⟨some 43, .call (.func 100) [(.tmp 41), (.tmp 42)], none⟩, ⟨some 40, .mv (.tmp 43), none⟩, ⟨some 44, .ext (.tmp 40) 0, none⟩, ⟨some 45,
    .ext (.tmp 40) 1, none⟩, ⟨some 9, .alloc [(.slice none 0 0), (.slice none 0 0), (.slice none 0 0), (.slice none 0 0), (.int .i64 0), (.int .i64 0), (.int .i64 0), (.int .i64 0),
    (.int .i64 0), (.int .i64 0), (.int .i64 0), (.int .i64 0), (.slice none 0 0)], none⟩, ⟨none, .store 13 (.tmp 9) (.tmp 44), none⟩, ⟨some 10, .mv (.tmp 45), none⟩]) (.seq
    (.region [⟨some 46, .mv (.tmp 10), none⟩, ⟨some 47, .bin .eql (.tmp 46) (.const (.int .i64 0)), none⟩, ⟨some 48, .mv (.tmp 47), none⟩, ⟨some 49, .load true 13 (.tmp 9), some
    (48, true)⟩, ⟨some 50, .load false 1 (.tmp 7), some (48, true)⟩, ⟨some 51, .call (.func 58) [(.tmp 49), (.tmp 50)], some (48, true)⟩, ⟨some 52, .pick (.tmp 48) (.tmp 51) (.const
    (.bool false)), none⟩]) (.cond (.tmp 52) (.seq (.region [⟨some 4, .mv (.const (.bool true)), none⟩]) .ret) .skip)))))))) (.region [⟨some 53, .bin .add (.tmp 16) (.const (.int
    .i64 1)), none⟩, ⟨some 16, .mv (.tmp 53), none⟩]))))))) (.seq (.region [⟨some 4, .mv (.const (.bool false)), none⟩]) .ret))))
theorem low58 : lowF Tryz.prog [2] Tryz.f58 = some (54, lc58.strip, [.tmp 4]) := by kernel_rfl
theorem fn58 : FnOk Tryz.prog 58 54 lc58 [.tmp 4] := ⟨Tryz.call58, [2], _, Tryz.func58, low58⟩
/-- moonpool/moonpoolref08.CopyTasks -/
def lc59 : LCode :=
  (.seq (.region [⟨some 2, .mv (.const (.slice none 0 0)), none⟩]) (.seq (.region [⟨some 3, .mv (.const (.slice none 0 0)), none⟩]) (.seq (.seq (.region [⟨some 4, .mv (.const (.int
    .i64 0)), none⟩]) (.block 0 (.loop (.seq (.seq (.region [⟨some 6, .mv (.tmp 4), none⟩, ⟨some 7, .mv (.tmp 0), none⟩, ⟨some 8, .len (.tmp 7), none⟩, ⟨some 9, .bin .lss (.tmp 6)
    (.tmp 8), none⟩]) (.cond (.tmp 9) .skip (.exit 0))) (.seq (.block 1 (.seq (.region [⟨some 12, .mv (.tmp 0), none⟩, ⟨some 13, .mv (.tmp 4), none⟩, ⟨some 14, .idx 9 (.tmp 12)
    (.tmp 13), none⟩, ⟨some 15, .load true 9 (.tmp 14), none⟩, ⟨some 5, .alloc [(.string ⟨#[]⟩), (.int .i64 0), (.int .i64 0), (.int .i64 0), (.int .i64 0), (.int .i64 0), (.int
    .i64 0), (.int .i64 0), (.slice none 0 0)], none⟩, ⟨none, .store 9 (.tmp 5) (.tmp 15), none⟩]) (.seq (.region [⟨some 16, .fld 8 (.tmp 5), none⟩, ⟨some 17, .load false 1 (.tmp
    16), none⟩, ⟨some 18, .call (.func 14) [(.tmp 17)], none⟩, ⟨some 19, .fld 8 (.tmp 5), none⟩, ⟨none, .store 1 (.tmp 19) (.tmp 18), none⟩]) (.region [⟨some 20, .mv (.tmp 3),
    none⟩, ⟨some 21, .load true 9 (.tmp 5), none⟩, ⟨some 22, .lit false 119 9 [(.tmp 21)], none⟩, ⟨some 23, .append true 119 9 96 (.tmp 20) (.tmp 22), none⟩, ⟨some 3, .mv (.tmp 23),
    none⟩])))) (.region [⟨some 10, .mv (.tmp 4), none⟩, ⟨some 11, .bin .add (.tmp 10) (.const (.int .i64 1)), none⟩, ⟨some 4, .mv (.tmp 11), none⟩])))))) (.seq (.region [⟨some 24,
    .mv (.tmp 3), none⟩, ⟨some 2, .mv (.tmp 24), none⟩]) .ret))))
theorem low59 : lowF Tryz.prog [23] Tryz.f59 = some (25, lc59.strip, [.tmp 2]) := by kernel_rfl
theorem fn59 : FnOk Tryz.prog 59 25 lc59 [.tmp 2] := ⟨Tryz.call59, [23], _, Tryz.func59, low59⟩
/-- cmp.Or[int] -/
def lc60 : LCode :=
  (.seq (.region [⟨some 2, .mv (.const (.int .i64 0)), none⟩]) (.seq (.region [⟨some 3, .mv (.const (.int .i64 0)), none⟩]) (.seq (.seq (.region [⟨some 6, .mv (.tmp 0), none⟩, ⟨some
    7, .len (.tmp 6), none⟩, ⟨some 8, .mv (.const (.int .i64 0)), none⟩]) (.block 0 (.loop (.seq (.region [⟨some 9, .bin .lss (.tmp 8) (.tmp 7), none⟩]) (.seq (.cond (.tmp 9) .skip
    (.exit 0)) (.seq (.block 1 (.seq (.region [⟨some 10, .idx 1 (.tmp 6) (.tmp 8), none⟩, ⟨some 11, .load false 1 (.tmp 10), none⟩, ⟨some 5, .mv (.tmp 11), none⟩]) (.seq (.region
    [⟨some 12, .mv (.tmp 5), none⟩, ⟨some 13, .mv (.tmp 3), none⟩, ⟨some 14, .bin .neq (.tmp 12) (.tmp 13), none⟩]) (.cond (.tmp 14) (.seq (.region [⟨some 15, .mv (.tmp 5), none⟩,
    ⟨some 2, .mv (.tmp 15), none⟩]) .ret) .skip)))) (.region [⟨some 16, .bin .add (.tmp 8) (.const (.int .i64 1)), none⟩, ⟨some 8, .mv (.tmp 16), none⟩]))))))) (.seq (.region [⟨some
    17, .mv (.tmp 3), none⟩, ⟨some 2, .mv (.tmp 17), none⟩]) .ret))))
theorem low60 : lowF Tryz.prog [] Tryz.f60 = some (18, lc60.strip, [.tmp 2]) := by kernel_rfl
theorem fn60 : FnOk Tryz.prog 60 18 lc60 [.tmp 2] := ⟨Tryz.call60, [], _, Tryz.func60, low60⟩
end Go.Pw

set_option linter.unusedVariables false
set_option maxHeartbeats 2000000
set_option maxRecDepth 100000
namespace Go.Pw
open Go Go.Proofs
/-- cmp.Compare[int] -/
def lc61 : LCode :=
  (.seq (.region [⟨some 4, .mv (.const (.int .i64 0)), none⟩]) (.seq (.region [⟨some 7, .mv (.tmp 0), none⟩, ⟨some 8, .call (.func 101) [(.tmp 7)], none⟩, ⟨some 5, .mv (.tmp 8),
    none⟩]) (.seq (.region [⟨some 9, .mv (.tmp 1), none⟩, ⟨some 10, .call (.func 101) [(.tmp 9)], none⟩, ⟨some 6, .mv (.tmp 10), none⟩]) (.seq (.seq (.region [⟨some 11, .mv (.tmp
    5), none⟩]) (.cond (.tmp 11) (.seq (.seq (.region [⟨some 12, .mv (.tmp 6), none⟩]) (.cond (.tmp 12) (.seq (.region [⟨some 4, .mv (.const (.int .i64 0)), none⟩]) .ret) .skip))
    (.seq (.region [⟨some 4, .mv (.const (.int .i64 (-1))), none⟩]) .ret)) .skip)) (.seq (.seq (.region [⟨some 13, .mv (.tmp 6), none⟩]) (.cond (.tmp 13) (.seq (.region [⟨some 4,
    .mv (.const (.int .i64 1)), none⟩]) .ret) .skip)) (.seq (.seq (.region [⟨some 14, .mv (.tmp 0), none⟩, ⟨some 15, .mv (.tmp 1), none⟩, ⟨some 16, .bin .lss (.tmp 14) (.tmp 15),
    none⟩]) (.cond (.tmp 16) (.seq (.region [⟨some 4, .mv (.const (.int .i64 (-1))), none⟩]) .ret) .skip)) (.seq (.seq (.region [⟨some 17, .mv (.tmp 0), none⟩, ⟨some 18, .mv (.tmp
    1), none⟩, ⟨some 19, .bin .gtr (.tmp 17) (.tmp 18), none⟩]) (.cond (.tmp 19) (.seq (.region [⟨some 4, .mv (.const (.int .i64 1)), none⟩]) .ret) .skip)) (.seq (.region [⟨some 4,
    .mv (.const (.int .i64 0)), none⟩]) .ret))))))))
theorem low61 : lowF Tryz.prog [] Tryz.f61 = some (20, lc61.strip, [.tmp 4]) := by kernel_rfl
theorem fn61 : FnOk Tryz.prog 61 20 lc61 [.tmp 4] := ⟨Tryz.call61, [], _, Tryz.func61, low61⟩
/-- slices.Compare[[]int,int] -/
def lc62 : LCode :=
  (.seq (.region [⟨some 4, .mv (.const (.int .i64 0)), none⟩]) (.seq (.seq (.region [⟨some 9, .mv (.tmp 0), none⟩, ⟨some 10, .len (.tmp 9), none⟩, ⟨some 11, .mv (.const (.int .i64
    0)), none⟩]) (.block 0 (.loop (.seq (.region [⟨some 12, .bin .lss (.tmp 11) (.tmp 10), none⟩]) (.seq (.cond (.tmp 12) .skip (.exit 0)) (.seq (.block 1 (.seq (.region [⟨some 13,
    .mv (.tmp 11), none⟩, ⟨some 14, .idx 1 (.tmp 9) (.tmp 11), none⟩, ⟨some 15, .load false 1 (.tmp 14), none⟩, ⟨some 5, .mv (.tmp 13), none⟩, ⟨some 6, .mv (.tmp 15), none⟩]) (.seq
    (.seq (.region [⟨some 16, .mv (.tmp 5), none⟩, ⟨some 17, .mv (.tmp 1), none⟩, ⟨some 18, .len (.tmp 17), none⟩, ⟨some 19, .bin .geq (.tmp 16) (.tmp 18), none⟩]) (.cond (.tmp 19)
    (.seq (.region [⟨some 4, .mv (.const (.int .i64 1)), none⟩]) .ret) .skip)) (.seq (.region [⟨some 20, .mv (.tmp 1), none⟩, ⟨some 21, .mv (.tmp 5), none⟩, ⟨some 22, .idx 1 (.tmp
    20) (.tmp 21), none⟩, ⟨some 23, .load false 1 (.tmp 22), none⟩, ⟨some 7, .mv (.tmp 23), none⟩]) (.seq (.region [⟨some 24, .mv (.tmp 6), none⟩, ⟨some 25, .mv (.tmp 7), none⟩,
    ⟨some 26, .call (.func 61) [(.tmp 24), (.tmp 25)], none⟩, ⟨some 8, .mv (.tmp 26), none⟩]) (.seq (.region [⟨some 27, .mv (.tmp 8), none⟩, ⟨some 28, .bin .neq (.tmp 27) (.const
    (.int .i64 0)), none⟩]) (.cond (.tmp 28) (.seq (.region [⟨some 29, .mv (.tmp 8), none⟩, ⟨some 4, .mv (.tmp 29), none⟩]) .ret) .skip))))))) (.region [⟨some 30, .bin .add (.tmp
    11) (.const (.int .i64 1)), none⟩, ⟨some 11, .mv (.tmp 30), none⟩]))))))) (.seq (.seq (.region [⟨some 31, .mv (.tmp 0), none⟩, ⟨some 32, .len (.tmp 31), none⟩, ⟨some 33, .mv
    (.tmp 1), none⟩, ⟨some 34, .len (.tmp 33), none⟩, ⟨some 35, .bin .lss (.tmp 32) (.tmp 34), none⟩]) (.cond (.tmp 35) (.seq (.region [⟨some 4, .mv (.const (.int .i64 (-1))),
    none⟩]) .ret) .skip)) (.seq (.region [⟨some 4, .mv (.const (.int .i64 0)), none⟩]) .ret))))
theorem low62 : lowF Tryz.prog [] Tryz.f62 = some (36, lc62.strip, [.tmp 4]) := by kernel_rfl
theorem fn62 : FnOk Tryz.prog 62 36 lc62 [.tmp 4] := ⟨Tryz.call62, [], _, Tryz.func62, low62⟩
/-- moonpool/moonpoolref08.StateErr -/
def lc63 : LCode :=
  (.seq (.region [⟨some 2, .boxS (.tmp 0), none⟩, ⟨some 3, .boxS (.tmp 1), none⟩, ⟨some 4, .mv (.const (.int .i64 0)), none⟩]) (.seq (.region [⟨some 8, .load true 8 (.tmp 2), none⟩,
    ⟨some 9, .load true 5 (.tmp 3), none⟩, ⟨some 10, .call (.func 102) [(.tmp 8), (.tmp 9)], none⟩, ⟨some 7, .mv (.tmp 10), none⟩, ⟨some 11, .ext (.tmp 7) 0, none⟩, ⟨some 12, .ext
    (.tmp 7) 1, none⟩, ⟨some 5, .mv (.tmp 11), none⟩, ⟨some 6, .mv (.tmp 12), none⟩]) (.seq (.region [⟨some 13, .mv (.tmp 6), none⟩, ⟨some 4, .mv (.tmp 13), none⟩]) .ret)))
theorem low63 : lowF Tryz.prog [2, 3] Tryz.f63 = some (14, lc63.strip, [.tmp 4]) := by kernel_rfl
theorem fn63 : FnOk Tryz.prog 63 14 lc63 [.tmp 4] := ⟨Tryz.call63, [2, 3], _, Tryz.func63, low63⟩
/-- moonpool/dive.openReturn -/
def lc66 : LCode :=
  (.seq (.region [⟨some 2, .boxS (.tmp 0), none⟩, ⟨some 3, .boxS (.tmp 1), none⟩, ⟨some 4, .alloc [(.slice none 0 0), (.slice none 0 0), (.slice none 0 0), (.slice none 0 0), (.int
    .i64 0), (.int .i64 0), (.int .i64 0), (.int .i64 0), (.int .i64 0), (.int .i64 0), (.int .i64 0), (.int .i64 0), (.slice none 0 0)], none⟩, ⟨some 5, .mv (.const (.int .i64 0)),
    none⟩]) (.seq (.region [⟨some 9, .load true 8 (.tmp 2), none⟩, ⟨some 10, .load true 5 (.tmp 3), none⟩, ⟨some 11, .call (.func 52) [(.tmp 9), (.tmp 10)], none⟩, ⟨some 8, .mv
    (.tmp 11), none⟩, ⟨some 12, .ext (.tmp 8) 0, none⟩, ⟨some 13, .ext (.tmp 8) 1, none⟩, ⟨some 6, .alloc [(.slice none 0 0), (.slice none 0 0), (.slice none 0 0), (.slice none 0
    0), (.int .i64 0), (.int .i64 0), (.int .i64 0), (.int .i64 0), (.int .i64 0), (.int .i64 0), (.int .i64 0), (.int .i64 0), (.slice none 0 0)], none⟩, ⟨none, .store 13 (.tmp 6)
    (.tmp 12), none⟩, ⟨some 7, .mv (.tmp 13), none⟩]) (.seq (.seq (.region [⟨some 14, .mv (.tmp 7), none⟩, ⟨some 15, .bin .eql (.tmp 14) (.const (.int .i64 0)), none⟩, ⟨some 16, .mv
    (.tmp 15), none⟩, ⟨some 17, .load true 13 (.tmp 6), some (16, true)⟩, ⟨some 18, .call (.func 70) [(.tmp 17)], some (16, true)⟩, ⟨some 19, .un .not (.tmp 18), some (16, true)⟩,
    ⟨some 20, .pick (.tmp 16) (.tmp 19) (.const (.bool false)), none⟩]) (.cond (.tmp 20) (.region [⟨some 7, .mv (.const (.int .i64 24)), none⟩]) .skip)) (.seq (.region [⟨some 21,
    .load true 13 (.tmp 6), none⟩, ⟨some 22, .mv (.tmp 7), none⟩, ⟨none, .store 13 (.tmp 4) (.tmp 21), none⟩, ⟨some 5, .mv (.tmp 22), none⟩]) .ret))))
theorem low66 : lowF Tryz.prog [2, 3] Tryz.f66 = some (23, lc66.strip, [.cell 4 true 13, .tmp 5]) := by kernel_rfl
theorem fn66 : FnOk Tryz.prog 66 23 lc66 [.cell 4 true 13, .tmp 5] := ⟨Tryz.call66, [2, 3], _, Tryz.func66, low66⟩
def ra67 : LCode :=
  (.region [⟨some 8, .mv (.tmp 13), none⟩])
def rb67 : LCode :=
  (.block 1 (.seq (.region [⟨some 14, .fld 0 (.tmp 2), none⟩, ⟨some 15, .load true 8 (.tmp 14), none⟩, ⟨some 16, .mv (.tmp 8), none⟩, ⟨some 17, .call (.func 81) [(.tmp 15), (.tmp
    16)], none⟩, ⟨some 9, .mv (.tmp 17), none⟩]) (.seq (.region [⟨some 18, .mv (.tmp 9), none⟩, ⟨some 19, .load false 1 (.tmp 7), none⟩, ⟨some 20, .bin .gtr (.tmp 18) (.tmp 19),
    none⟩]) (.cond (.tmp 20) (.region [⟨some 21, .mv (.tmp 8), none⟩, ⟨some 22, .call (.func 80) [(.tmp 21)], none⟩, ⟨some 23, .mv (.tmp 9), none⟩, ⟨none, .store 1 (.tmp 6) (.tmp
    22), none⟩, ⟨none, .store 1 (.tmp 7) (.tmp 23), none⟩]) .skip))))
/-- (moonpool/dive.dive).best -/
def lc67 : LCode :=
  (.seq (.region [⟨some 2, .boxS (.tmp 0), none⟩, ⟨some 4, .mv (.const (.slice none 0 0)), none⟩, ⟨some 5, .mv (.const (.int .i64 0)), none⟩]) (.seq (.region [⟨some 6, .alloc
    [(.slice none 0 0)], none⟩]) (.seq (.region [⟨some 7, .alloc [(.int .i64 0)], none⟩, ⟨none, .store 1 (.tmp 7) (.const (.int .i64 0)), none⟩]) (.seq (.seq (.region [⟨some 10,
    .load true 13 (.tmp 2), none⟩, ⟨some 11, .mv (.tmp 1), none⟩, ⟨some 12, .call (.func 103) [(.tmp 10), (.tmp 11)], none⟩]) (.block 0 (.rangeFunc (.tmp 12) [13] ra67 rb67))) (.seq
    (.regionD [⟨some 24, .load false 1 (.tmp 6), none⟩, ⟨some 25, .load false 1 (.tmp 7), none⟩, ⟨some 4, .mv (.tmp 24), none⟩, ⟨some 5, .mv (.tmp 25), none⟩] [0, 0, 1, 7] [0, 1, 2,
    3]) .ret)))))
theorem low67 : lowF Tryz.prog [2] Tryz.f67 = some (26, lc67.strip, [.tmp 4, .tmp 5]) := by kernel_rfl
theorem fn67 : FnOk Tryz.prog 67 26 lc67 [.tmp 4, .tmp 5] := ⟨Tryz.call67, [2], _, Tryz.func67, low67⟩
/-- moonpool/dive.BestPlan$1 -/
def lc68 : LCode :=
  (.seq (.region [⟨some 2, .mv (.const (.bool false)), none⟩]) (.seq (.region [⟨some 2, .mv (.const (.bool true)), none⟩]) .ret))
theorem low68 : lowF Tryz.prog [] Tryz.f68 = some (3, lc68.strip, [.tmp 2]) := by kernel_rfl
theorem fn68 : FnOk Tryz.prog 68 3 lc68 [.tmp 2] := ⟨Tryz.call68, [], _, Tryz.func68, low68⟩
/-- moonpool/dive.within -/
def lc69 : LCode :=
  (.seq (.region [⟨some 6, .mv (.const (.bool false)), none⟩]) (.seq (.region [⟨some 7, .mv (.tmp 1), none⟩, ⟨some 8, .mv (.tmp 0), none⟩, ⟨some 9, .bin .leq (.tmp 7) (.tmp 8),
    none⟩, ⟨some 10, .mv (.tmp 9), none⟩, ⟨some 11, .mv (.tmp 0), some (10, true)⟩, ⟨some 12, .mv (.tmp 2), some (10, true)⟩, ⟨some 13, .bin .leq (.tmp 11) (.tmp 12), some (10,
    true)⟩, ⟨some 14, .pick (.tmp 10) (.tmp 13) (.const (.bool false)), none⟩, ⟨some 6, .mv (.tmp 14), none⟩]) .ret))
theorem low69 : lowF Tryz.prog [] Tryz.f69 = some (15, lc69.strip, [.tmp 6]) := by kernel_rfl
theorem fn69 : FnOk Tryz.prog 69 15 lc69 [.tmp 6] := ⟨Tryz.call69, [], _, Tryz.func69, low69⟩
/-- (moonpool/dive.dive).returns -/
def lc70 : LCode :=
  (.seq (.region [⟨some 1, .boxS (.tmp 0), none⟩, ⟨some 2, .mv (.const (.bool false)), none⟩]) (.seq (.region [⟨some 4, .load true 13 (.tmp 1), none⟩, ⟨some 5, .call (.func 104)
    [(.tmp 4)], none⟩, ⟨some 3, .alloc [(.int .i64 0), (.int .i64 0)], none⟩, ⟨none, .store 2 (.tmp 3) (.tmp 5), none⟩]) (.seq (.region [⟨some 6, .fld 8 (.tmp 1), none⟩, ⟨some 7,
    .fld 2 (.tmp 6), none⟩, ⟨some 8, .load false 1 (.tmp 7), none⟩, ⟨some 9, .fld 1 (.tmp 3), none⟩, ⟨some 10, .load false 1 (.tmp 9), none⟩, ⟨some 11, .bin .sub (.tmp 8) (.tmp 10),
    none⟩, ⟨some 12, .fld 0 (.tmp 1), none⟩, ⟨some 13, .fld 6 (.tmp 12), none⟩, ⟨some 14, .load false 1 (.tmp 13), none⟩, ⟨some 15, .bin .geq (.tmp 11) (.tmp 14), none⟩, ⟨some 16,
    .mv (.tmp 15), none⟩, ⟨some 17, .fld 8 (.tmp 1), some (16, true)⟩, ⟨some 18, .fld 1 (.tmp 17), some (16, true)⟩, ⟨some 19, .load false 1 (.tmp 18), some (16, true)⟩, ⟨some 20,
    .fld 0 (.tmp 3), some (16, true)⟩, ⟨some 21, .load false 1 (.tmp 20), some (16, true)⟩, ⟨some 22, .bin .add (.tmp 19) (.tmp 21), some (16, true)⟩, ⟨some 23, .fld 0 (.tmp 1),
    some (16, true)⟩, ⟨some 24, .fld 7 (.tmp 23), some (16, true)⟩, ⟨some 25, .load false 1 (.tmp 24), some (16, true)⟩, ⟨some 26, .bin .leq (.tmp 22) (.tmp 25), some (16, true)⟩,
    ⟨some 27, .pick (.tmp 16) (.tmp 26) (.const (.bool false)), none⟩, ⟨some 2, .mv (.tmp 27), none⟩]) .ret)))
theorem low70 : lowF Tryz.prog [1] Tryz.f70 = some (28, lc70.strip, [.tmp 2]) := by kernel_rfl
theorem fn70 : FnOk Tryz.prog 70 28 lc70 [.tmp 2] := ⟨Tryz.call70, [1], _, Tryz.func70, low70⟩
/-- moonpool/dive.dependents -/
def lc71 : LCode :=
  (.seq (.region [⟨some 2, .boxS (.tmp 0), none⟩, ⟨some 3, .box (.tmp 1), none⟩, ⟨some 4, .mv (.const (.slice none 0 0)), none⟩]) (.seq (.region [⟨some 8, .fld 0 (.tmp 2), none⟩,
    ⟨some 9, .load false 1 (.tmp 8), none⟩, ⟨some 10, .len (.tmp 9), none⟩, ⟨some 11, .make true 4 1 1 [(.bool false)] (.tmp 10), none⟩, ⟨some 5, .alloc [(.slice none 0 0)], none⟩,
    ⟨none, .store 1 (.tmp 5) (.tmp 11), none⟩]) (.seq (.seq (.region [⟨some 12, .fld 0 (.tmp 2), none⟩, ⟨some 13, .load false 1 (.tmp 12), none⟩, ⟨some 14, .len (.tmp 13), none⟩,
    ⟨some 15, .mv (.const (.int .i64 0)), none⟩]) (.block 0 (.loop (.seq (.region [⟨some 16, .bin .lss (.tmp 15) (.tmp 14), none⟩]) (.seq (.cond (.tmp 16) .skip (.exit 0)) (.seq
    (.block 1 (.seq (.region [⟨some 17, .mv (.tmp 15), none⟩, ⟨some 18, .idx 9 (.tmp 13) (.tmp 15), none⟩, ⟨some 19, .load true 9 (.tmp 18), none⟩, ⟨some 7, .alloc [(.string ⟨#[]⟩),
    (.int .i64 0), (.int .i64 0), (.int .i64 0), (.int .i64 0), (.int .i64 0), (.int .i64 0), (.int .i64 0), (.slice none 0 0)], none⟩, ⟨some 6, .mv (.tmp 17), none⟩, ⟨none, .store
    9 (.tmp 7) (.tmp 19), none⟩]) (.regionD [⟨some 20, .load false 1 (.tmp 5), none⟩, ⟨some 21, .mv (.tmp 6), none⟩, ⟨some 22, .fld 8 (.tmp 7), none⟩, ⟨some 23, .load false 1 (.tmp
    22), none⟩, ⟨some 24, .mkfn 105 [(.tmp 3), (.tmp 5)], none⟩, ⟨some 25, .call (.func 56) [(.tmp 23), (.tmp 24)], none⟩, ⟨some 26, .idx 1 (.tmp 20) (.tmp 21), none⟩, ⟨none, .store
    1 (.tmp 26) (.tmp 25), none⟩] [0, 0, 0, 4, 0, 28, 63, 127] [0, 1, 2, 3, 4, 5, 6, 7]))) (.region [⟨some 27, .bin .add (.tmp 15) (.const (.int .i64 1)), none⟩, ⟨some 15, .mv (.tmp
    27), none⟩]))))))) (.seq (.region [⟨some 28, .load false 1 (.tmp 5), none⟩, ⟨some 4, .mv (.tmp 28), none⟩]) .ret))))
theorem low71 : lowF Tryz.prog [2, 11] Tryz.f71 = some (29, lc71.strip, [.tmp 4]) := by kernel_rfl
theorem fn71 : FnOk Tryz.prog 71 29 lc71 [.tmp 4] := ⟨Tryz.call71, [2, 11], _, Tryz.func71, low71⟩
/-- moonpool/dive.Replanned$1 -/
def lc72 : LCode :=
  (.seq (.region [⟨some 4, .mv (.const (.bool false)), none⟩]) (.seq (.region [⟨some 5, .mv (.tmp 0), none⟩, ⟨some 6, .load false 1 (.tmp 1), none⟩, ⟨some 7, .bin .neq (.tmp 5)
    (.tmp 6), none⟩, ⟨some 8, .mv (.tmp 7), none⟩, ⟨some 9, .load false 1 (.tmp 2), some (8, true)⟩, ⟨some 10, .mv (.tmp 0), some (8, true)⟩, ⟨some 11, .idx 1 (.tmp 9) (.tmp 10),
    some (8, true)⟩, ⟨some 12, .load false 1 (.tmp 11), some (8, true)⟩, ⟨some 13, .un .not (.tmp 12), some (8, true)⟩, ⟨some 14, .pick (.tmp 8) (.tmp 13) (.const (.bool false)),
    none⟩, ⟨some 4, .mv (.tmp 14), none⟩]) .ret))
theorem low72 : lowF Tryz.prog [] Tryz.f72 = some (15, lc72.strip, [.tmp 4]) := by kernel_rfl
theorem fn72 : FnOk Tryz.prog 72 15 lc72 [.tmp 4] := ⟨Tryz.call72, [], _, Tryz.func72, low72⟩
/-- moonpool/dive.CheckSite -/
def lc73 : LCode :=
  (.seq (.region [⟨some 1, .box (.tmp 0), none⟩, ⟨some 2, .mv (.const (.int .i64 0)), none⟩, ⟨some 3, .mv (.const (.int .i64 0)), none⟩]) (.seq (.seq (.region [⟨some 16, .fld 0
    (.tmp 1), none⟩, ⟨some 17, .load false 1 (.tmp 16), none⟩, ⟨some 18, .call (.func 106) [(.tmp 17)], none⟩, ⟨some 15, .mv (.tmp 18), none⟩, ⟨some 19, .ext (.tmp 15) 0, none⟩,
    ⟨some 20, .ext (.tmp 15) 1, none⟩, ⟨some 4, .mv (.tmp 19), none⟩, ⟨some 5, .mv (.tmp 20), none⟩]) (.seq (.region [⟨some 21, .mv (.tmp 5), none⟩, ⟨some 22, .bin .neq (.tmp 21)
    (.const (.int .i64 0)), none⟩]) (.cond (.tmp 22) (.seq (.region [⟨some 23, .mv (.tmp 4), none⟩, ⟨some 24, .mv (.tmp 5), none⟩, ⟨some 2, .mv (.tmp 23), none⟩, ⟨some 3, .mv (.tmp
    24), none⟩]) .ret) .skip))) (.seq (.region [⟨some 25, .fld 2 (.tmp 1), none⟩, ⟨some 26, .load false 1 (.tmp 25), none⟩, ⟨some 27, .len (.tmp 26), none⟩, ⟨some 6, .alloc [(.int
    .i64 0)], none⟩, ⟨none, .store 1 (.tmp 6) (.tmp 27), none⟩]) (.seq (.seq (.regionD [⟨some 28, .load false 1 (.tmp 6), none⟩, ⟨some 29, .bin .gtr (.tmp 28) (.const (.int .i64
    0)), none⟩, ⟨some 30, .call (.func 55) [(.tmp 29), (.const (.int .i64 10))], none⟩, ⟨some 31, .load false 1 (.tmp 6), none⟩, ⟨some 32, .bin .leq (.tmp 31) (.const (.int .i64
    5)), none⟩, ⟨some 33, .call (.func 55) [(.tmp 32), (.const (.int .i64 8))], none⟩, ⟨some 34, .fld 1 (.tmp 1), none⟩, ⟨some 35, .load false 1 (.tmp 34), none⟩, ⟨some 36, .len
    (.tmp 35), none⟩, ⟨some 37, .load false 1 (.tmp 6), none⟩, ⟨some 38, .bin .eql (.tmp 36) (.tmp 37), none⟩, ⟨some 39, .call (.func 55) [(.tmp 38), (.const (.int .i64 10))],
    none⟩, ⟨some 40, .lit false 33 1 [(.tmp 30), (.tmp 33), (.tmp 39)], none⟩, ⟨some 41, .call (.func 54) [(.tmp 40)], none⟩, ⟨some 7, .mv (.tmp 41), none⟩] [0, 1, 3, 0, 8, 31, 0,
    64, 192, 0, 960, 2047, 4095, 8191, 16383] [0, 1, 2, 3, 4, 5, 6, 7, 8, 9, 10, 11, 12, 13, 14]) (.seq (.region [⟨some 42, .mv (.tmp 7), none⟩, ⟨some 43, .bin .neq (.tmp 42)
    (.const (.int .i64 0)), none⟩]) (.cond (.tmp 43) (.seq (.region [⟨some 44, .mv (.tmp 7), none⟩, ⟨some 2, .mv (.const (.int .i64 0)), none⟩, ⟨some 3, .mv (.tmp 44), none⟩]) .ret)
    .skip))) (.seq (.seq (.region [⟨some 46, .fld 2 (.tmp 1), none⟩, ⟨some 47, .load false 1 (.tmp 46), none⟩, ⟨some 48, .mkfn 107 [(.tmp 1), (.tmp 6)], none⟩, ⟨some 49, .call
    (.func 94) [(.tmp 47), (.tmp 48)], none⟩, ⟨some 45, .mv (.tmp 49), none⟩, ⟨some 50, .ext (.tmp 45) 0, none⟩, ⟨some 51, .ext (.tmp 45) 1, none⟩, ⟨some 8, .mv (.tmp 50), none⟩,
    ⟨some 9, .mv (.tmp 51), none⟩]) (.seq (.region [⟨some 52, .mv (.tmp 9), none⟩, ⟨some 53, .bin .neq (.tmp 52) (.const (.int .i64 0)), none⟩]) (.cond (.tmp 53) (.seq (.region
    [⟨some 54, .mv (.tmp 8), none⟩, ⟨some 55, .mv (.tmp 9), none⟩, ⟨some 2, .mv (.tmp 54), none⟩, ⟨some 3, .mv (.tmp 55), none⟩]) .ret) .skip))) (.seq (.seq (.region [⟨some 57, .fld
    0 (.tmp 1), none⟩, ⟨some 58, .load false 1 (.tmp 57), none⟩, ⟨some 59, .mkfn 110 [(.tmp 6)], none⟩, ⟨some 60, .call (.func 109) [(.tmp 58), (.tmp 59)], none⟩, ⟨some 56, .mv
    (.tmp 60), none⟩, ⟨some 61, .ext (.tmp 56) 0, none⟩, ⟨some 62, .ext (.tmp 56) 1, none⟩, ⟨some 10, .mv (.tmp 61), none⟩, ⟨some 11, .mv (.tmp 62), none⟩]) (.seq (.region [⟨some
    63, .mv (.tmp 11), none⟩, ⟨some 64, .bin .neq (.tmp 63) (.const (.int .i64 0)), none⟩]) (.cond (.tmp 64) (.seq (.region [⟨some 65, .mv (.tmp 10), none⟩, ⟨some 66, .mv (.tmp 11),
    none⟩, ⟨some 2, .mv (.tmp 65), none⟩, ⟨some 3, .mv (.tmp 66), none⟩]) .ret) .skip))) (.seq (.seq (.region [⟨some 67, .fld 3 (.tmp 1), none⟩, ⟨some 68, .load false 1 (.tmp 67),
    none⟩, ⟨some 69, .len (.tmp 68), none⟩, ⟨some 70, .bin .gtr (.tmp 69) (.const (.int .i64 6)), none⟩]) (.cond (.tmp 70) (.seq (.region [⟨some 2, .mv (.const (.int .i64 0)),
    none⟩, ⟨some 3, .mv (.const (.int .i64 8)), none⟩]) .ret) .skip)) (.seq (.region [⟨some 12, .alloc [(.int .i64 0)], none⟩, ⟨none, .store 1 (.tmp 12) (.const (.int .i64 (-1))),
    none⟩]) (.seq (.seq (.region [⟨some 72, .fld 3 (.tmp 1), none⟩, ⟨some 73, .load false 1 (.tmp 72), none⟩, ⟨some 74, .mkfn 112 [(.tmp 12)], none⟩, ⟨some 75, .call (.func 111)
    [(.tmp 73), (.tmp 74)], none⟩, ⟨some 71, .mv (.tmp 75), none⟩, ⟨some 76, .ext (.tmp 71) 0, none⟩, ⟨some 77, .ext (.tmp 71) 1, none⟩, ⟨some 13, .mv (.tmp 76), none⟩, ⟨some 14,
    .mv (.tmp 77), none⟩]) (.seq (.region [⟨some 78, .mv (.tmp 14), none⟩, ⟨some 79, .bin .neq (.tmp 78) (.const (.int .i64 0)), none⟩]) (.cond (.tmp 79) (.seq (.region [⟨some 80,
    .mv (.tmp 13), none⟩, ⟨some 81, .mv (.tmp 14), none⟩, ⟨some 2, .mv (.tmp 80), none⟩, ⟨some 3, .mv (.tmp 81), none⟩]) .ret) .skip))) (.seq (.region [⟨some 82, .fld 4 (.tmp 1),
    none⟩, ⟨some 83, .load false 1 (.tmp 82), none⟩, ⟨some 84, .call (.func 84) [(.tmp 83)], none⟩, ⟨some 85, .mv (.tmp 84), none⟩, ⟨some 86, .fld 5 (.tmp 1), some (85, true)⟩,
    ⟨some 87, .load false 1 (.tmp 86), some (85, true)⟩, ⟨some 88, .call (.func 84) [(.tmp 87)], some (85, true)⟩, ⟨some 89, .pick (.tmp 85) (.tmp 88) (.const (.bool false)), none⟩,
    ⟨some 90, .mv (.tmp 89), none⟩, ⟨some 91, .fld 6 (.tmp 1), some (90, true)⟩, ⟨some 92, .load false 1 (.tmp 91), some (90, true)⟩, ⟨some 93, .call (.func 84) [(.tmp 92)], some
    (90, true)⟩, ⟨some 94, .pick (.tmp 90) (.tmp 93) (.const (.bool false)), none⟩, ⟨some 95, .mv (.tmp 94), none⟩, ⟨some 96, .fld 7 (.tmp 1), some (95, true)⟩, ⟨some 97, .load
    false 1 (.tmp 96), some (95, true)⟩, ⟨some 98, .call (.func 113) [(.tmp 97)], some (95, true)⟩, ⟨some 99, .pick (.tmp 95) (.tmp 98) (.const (.bool false)), none⟩, ⟨some 100,
    .call (.func 55) [(.tmp 99), (.const (.int .i64 2))], none⟩, ⟨some 2, .mv (.const (.int .i64 0)), none⟩, ⟨some 3, .mv (.tmp 100), none⟩]) .ret))))))))))
theorem low73 : lowF Tryz.prog [] Tryz.f73 = some (101, lc73.strip, [.tmp 2, .tmp 3]) := by kernel_rfl
theorem fn73 : FnOk Tryz.prog 73 101 lc73 [.tmp 2, .tmp 3] := ⟨Tryz.call73, [], _, Tryz.func73, low73⟩
/-- moonpool/moonpoolref08.CheckSite -/
def lc74 : LCode :=
  (.seq (.region [⟨some 1, .boxS (.tmp 0), none⟩, ⟨some 2, .mv (.const (.int .i64 0)), none⟩, ⟨some 3, .mv (.const (.int .i64 0)), none⟩]) (.seq (.seq (.region [⟨some 12, .fld 0
    (.tmp 1), none⟩, ⟨some 13, .load false 1 (.tmp 12), none⟩, ⟨some 14, .call (.func 114) [(.tmp 13)], none⟩, ⟨some 11, .mv (.tmp 14), none⟩, ⟨some 15, .ext (.tmp 11) 0, none⟩,
    ⟨some 16, .ext (.tmp 11) 1, none⟩, ⟨some 4, .mv (.tmp 15), none⟩, ⟨some 5, .mv (.tmp 16), none⟩]) (.seq (.region [⟨some 17, .mv (.tmp 5), none⟩, ⟨some 18, .bin .neq (.tmp 17)
    (.const (.int .i64 0)), none⟩]) (.cond (.tmp 18) (.seq (.region [⟨some 19, .mv (.tmp 4), none⟩, ⟨some 20, .mv (.tmp 5), none⟩, ⟨some 2, .mv (.tmp 19), none⟩, ⟨some 3, .mv (.tmp
    20), none⟩]) .ret) .skip))) (.seq (.seq (.region [⟨some 21, .fld 2 (.tmp 1), none⟩, ⟨some 22, .load false 1 (.tmp 21), none⟩, ⟨some 23, .len (.tmp 22), none⟩, ⟨some 24, .bin
    .eql (.tmp 23) (.const (.int .i64 0)), none⟩]) (.cond (.tmp 24) (.seq (.region [⟨some 2, .mv (.const (.int .i64 0)), none⟩, ⟨some 3, .mv (.const (.int .i64 10)), none⟩]) .ret)
    .skip)) (.seq (.seq (.region [⟨some 25, .fld 2 (.tmp 1), none⟩, ⟨some 26, .load false 1 (.tmp 25), none⟩, ⟨some 27, .len (.tmp 26), none⟩, ⟨some 28, .bin .gtr (.tmp 27) (.const
    (.int .i64 5)), none⟩]) (.cond (.tmp 28) (.seq (.region [⟨some 2, .mv (.const (.int .i64 0)), none⟩, ⟨some 3, .mv (.const (.int .i64 8)), none⟩]) .ret) .skip)) (.seq (.seq
    (.region [⟨some 29, .fld 1 (.tmp 1), none⟩, ⟨some 30, .load false 1 (.tmp 29), none⟩, ⟨some 31, .len (.tmp 30), none⟩, ⟨some 32, .fld 2 (.tmp 1), none⟩, ⟨some 33, .load false 1
    (.tmp 32), none⟩, ⟨some 34, .len (.tmp 33), none⟩, ⟨some 35, .bin .neq (.tmp 31) (.tmp 34), none⟩]) (.cond (.tmp 35) (.seq (.region [⟨some 2, .mv (.const (.int .i64 0)), none⟩,
    ⟨some 3, .mv (.const (.int .i64 10)), none⟩]) .ret) .skip)) (.seq (.seq (.region [⟨some 6, .mv (.const (.int .i64 0)), none⟩]) (.block 0 (.loop (.seq (.seq (.region [⟨some 36,
    .mv (.tmp 6), none⟩, ⟨some 37, .fld 2 (.tmp 1), none⟩, ⟨some 38, .load false 1 (.tmp 37), none⟩, ⟨some 39, .len (.tmp 38), none⟩, ⟨some 40, .bin .lss (.tmp 36) (.tmp 39),
    none⟩]) (.cond (.tmp 40) .skip (.exit 0))) (.seq (.block 1 (.seq (.seq (.region [⟨some 43, .fld 2 (.tmp 1), none⟩, ⟨some 44, .load false 1 (.tmp 43), none⟩, ⟨some 45, .mv (.tmp
    6), none⟩, ⟨some 46, .idx 1 (.tmp 44) (.tmp 45), none⟩, ⟨some 47, .load false 1 (.tmp 46), none⟩, ⟨some 48, .call (.func 115) [(.tmp 47)], none⟩, ⟨some 49, .un .not (.tmp 48),
    none⟩]) (.cond (.tmp 49) (.seq (.region [⟨some 50, .mv (.tmp 6), none⟩, ⟨some 2, .mv (.tmp 50), none⟩, ⟨some 3, .mv (.const (.int .i64 2)), none⟩]) .ret) .skip)) (.seq (.seq
    (.regionD [⟨some 51, .fld 1 (.tmp 1), none⟩, ⟨some 52, .load false 1 (.tmp 51), none⟩, ⟨some 53, .mv (.tmp 6), none⟩, ⟨some 54, .idx 1 (.tmp 52) (.tmp 53), none⟩, ⟨some 55,
    .load false 1 (.tmp 54), none⟩, ⟨some 56, .len (.tmp 55), none⟩, ⟨some 57, .fld 2 (.tmp 1), none⟩, ⟨some 58, .load false 1 (.tmp 57), none⟩, ⟨some 59, .len (.tmp 58), none⟩,
    ⟨some 60, .bin .neq (.tmp 56) (.tmp 59), none⟩] [0, 1, 0, 7, 15, 31, 0, 64, 192, 511] [0, 1, 2, 3, 4, 5, 6, 7, 8, 9]) (.cond (.tmp 60) (.seq (.region [⟨some 61, .mv (.tmp 6),
    none⟩, ⟨some 2, .mv (.tmp 61), none⟩, ⟨some 3, .mv (.const (.int .i64 10)), none⟩]) .ret) .skip)) (.seq (.region [⟨some 7, .mv (.const (.int .i64 0)), none⟩]) (.block 2 (.loop
    (.seq (.seq (.region [⟨some 62, .mv (.tmp 7), none⟩, ⟨some 63, .fld 2 (.tmp 1), none⟩, ⟨some 64, .load false 1 (.tmp 63), none⟩, ⟨some 65, .len (.tmp 64), none⟩, ⟨some 66, .bin
    .lss (.tmp 62) (.tmp 65), none⟩]) (.cond (.tmp 66) .skip (.exit 2))) (.seq (.block 3 (.seq (.region [⟨some 69, .fld 1 (.tmp 1), none⟩, ⟨some 70, .load false 1 (.tmp 69), none⟩,
    ⟨some 71, .mv (.tmp 6), none⟩, ⟨some 72, .idx 1 (.tmp 70) (.tmp 71), none⟩, ⟨some 73, .load false 1 (.tmp 72), none⟩, ⟨some 74, .mv (.tmp 7), none⟩, ⟨some 75, .idx 1 (.tmp 73)
    (.tmp 74), none⟩, ⟨some 76, .load false 1 (.tmp 75), none⟩, ⟨some 77, .call (.func 115) [(.tmp 76)], none⟩, ⟨some 78, .un .not (.tmp 77), none⟩, ⟨some 79, .mv (.tmp 78), none⟩,
    ⟨some 80, .mv (.tmp 6), some (79, false)⟩, ⟨some 81, .mv (.tmp 7), some (79, false)⟩, ⟨some 82, .bin .eql (.tmp 80) (.tmp 81), some (79, false)⟩, ⟨some 83, .mv (.tmp 82), some
    (79, false)⟩, ⟨some 84, .fld 1 (.tmp 1), some (83, true)⟩, ⟨some 85, .load false 1 (.tmp 84), some (83, true)⟩, ⟨some 86, .mv (.tmp 6), some (83, true)⟩, ⟨some 87, .idx 1 (.tmp
    85) (.tmp 86), some (83, true)⟩, ⟨some 88, .load false 1 (.tmp 87), some (83, true)⟩, ⟨some 89, .mv (.tmp 7), some (83, true)⟩, ⟨some 90, .idx 1 (.tmp 88) (.tmp 89), some (83,
    true)⟩, ⟨some 91, .load false 1 (.tmp 90), some (83, true)⟩, ⟨some 92, .bin .neq (.tmp 91) (.const (.int .i64 0)), some (83, true)⟩, ⟨some 93, .pick (.tmp 83) (.tmp 92) (.const
    (.bool false)), some (79, false)⟩, ⟨some 94, .pick (.tmp 79) (.const (.bool true)) (.tmp 93), none⟩]) (.cond (.tmp 94) (.seq (.region [⟨some 95, .mv (.tmp 6), none⟩, ⟨some 2,
    .mv (.tmp 95), none⟩, ⟨some 3, .mv (.const (.int .i64 2)), none⟩]) .ret) .skip))) (.region [⟨some 67, .mv (.tmp 7), none⟩, ⟨some 68, .bin .add (.tmp 67) (.const (.int .i64 1)),
    none⟩, ⟨some 7, .mv (.tmp 68), none⟩]))))))))) (.region [⟨some 41, .mv (.tmp 6), none⟩, ⟨some 42, .bin .add (.tmp 41) (.const (.int .i64 1)), none⟩, ⟨some 6, .mv (.tmp 42),
    none⟩])))))) (.seq (.seq (.region [⟨some 8, .mv (.const (.int .i64 0)), none⟩]) (.block 4 (.loop (.seq (.seq (.region [⟨some 96, .mv (.tmp 8), none⟩, ⟨some 97, .fld 0 (.tmp 1),
    none⟩, ⟨some 98, .load false 1 (.tmp 97), none⟩, ⟨some 99, .len (.tmp 98), none⟩, ⟨some 100, .bin .lss (.tmp 96) (.tmp 99), none⟩]) (.cond (.tmp 100) .skip (.exit 4))) (.seq
    (.block 5 (.seq (.regionD [⟨some 103, .fld 0 (.tmp 1), none⟩, ⟨some 104, .load false 1 (.tmp 103), none⟩, ⟨some 105, .mv (.tmp 8), none⟩, ⟨some 106, .idx 9 (.tmp 104) (.tmp
    105), none⟩, ⟨some 107, .fld 1 (.tmp 106), none⟩, ⟨some 108, .load false 1 (.tmp 107), none⟩, ⟨some 109, .fld 2 (.tmp 1), none⟩, ⟨some 110, .load false 1 (.tmp 109), none⟩,
    ⟨some 111, .len (.tmp 110), none⟩, ⟨some 112, .bin .geq (.tmp 108) (.tmp 111), none⟩] [0, 1, 0, 7, 15, 31, 0, 64, 192, 511] [0, 1, 2, 3, 4, 5, 6, 7, 8, 9]) (.cond (.tmp 112)
    (.seq (.region [⟨some 113, .mv (.tmp 8), none⟩, ⟨some 2, .mv (.tmp 113), none⟩, ⟨some 3, .mv (.const (.int .i64 6)), none⟩]) .ret) .skip))) (.region [⟨some 101, .mv (.tmp 8),
    none⟩, ⟨some 102, .bin .add (.tmp 101) (.const (.int .i64 1)), none⟩, ⟨some 8, .mv (.tmp 102), none⟩])))))) (.seq (.seq (.region [⟨some 114, .fld 3 (.tmp 1), none⟩, ⟨some 115,
    .load false 1 (.tmp 114), none⟩, ⟨some 116, .len (.tmp 115), none⟩, ⟨some 117, .bin .gtr (.tmp 116) (.const (.int .i64 6)), none⟩]) (.cond (.tmp 117) (.seq (.region [⟨some 2,
    .mv (.const (.int .i64 0)), none⟩, ⟨some 3, .mv (.const (.int .i64 8)), none⟩]) .ret) .skip)) (.seq (.seq (.region [⟨some 9, .mv (.const (.int .i64 0)), none⟩]) (.block 6 (.loop
    (.seq (.seq (.region [⟨some 118, .mv (.tmp 9), none⟩, ⟨some 119, .fld 3 (.tmp 1), none⟩, ⟨some 120, .load false 1 (.tmp 119), none⟩, ⟨some 121, .len (.tmp 120), none⟩, ⟨some
    122, .bin .lss (.tmp 118) (.tmp 121), none⟩]) (.cond (.tmp 122) .skip (.exit 6))) (.seq (.block 7 (.seq (.region [⟨some 125, .fld 3 (.tmp 1), none⟩, ⟨some 126, .load false 1
    (.tmp 125), none⟩, ⟨some 127, .mv (.tmp 9), none⟩, ⟨some 128, .idx 3 (.tmp 126) (.tmp 127), none⟩, ⟨some 129, .load true 3 (.tmp 128), none⟩, ⟨some 10, .alloc [(.int .i64 0),
    (.int .i64 0), (.int .i64 0)], none⟩, ⟨none, .store 3 (.tmp 10) (.tmp 129), none⟩]) (.seq (.seq (.region [⟨some 130, .fld 0 (.tmp 10), none⟩, ⟨some 131, .fld 0 (.tmp 130),
    none⟩, ⟨some 132, .load false 1 (.tmp 131), none⟩, ⟨some 133, .call (.func 116) [(.tmp 132)], none⟩, ⟨some 134, .un .not (.tmp 133), none⟩, ⟨some 135, .mv (.tmp 134), none⟩,
    ⟨some 136, .fld 0 (.tmp 10), some (135, false)⟩, ⟨some 137, .fld 1 (.tmp 136), some (135, false)⟩, ⟨some 138, .load false 1 (.tmp 137), some (135, false)⟩, ⟨some 139, .call
    (.func 116) [(.tmp 138)], some (135, false)⟩, ⟨some 140, .un .not (.tmp 139), some (135, false)⟩, ⟨some 141, .pick (.tmp 135) (.const (.bool true)) (.tmp 140), none⟩, ⟨some 142,
    .mv (.tmp 141), none⟩, ⟨some 143, .fld 2 (.tmp 10), some (142, false)⟩, ⟨some 144, .load false 1 (.tmp 143), some (142, false)⟩, ⟨some 145, .call (.func 115) [(.tmp 144)], some
    (142, false)⟩, ⟨some 146, .un .not (.tmp 145), some (142, false)⟩, ⟨some 147, .pick (.tmp 142) (.const (.bool true)) (.tmp 146), none⟩]) (.cond (.tmp 147) (.seq (.region [⟨some
    148, .mv (.tmp 9), none⟩, ⟨some 2, .mv (.tmp 148), none⟩, ⟨some 3, .mv (.const (.int .i64 2)), none⟩]) .ret) .skip)) (.seq (.regionD [⟨some 149, .fld 0 (.tmp 10), none⟩, ⟨some
    150, .fld 0 (.tmp 149), none⟩, ⟨some 151, .load false 1 (.tmp 150), none⟩, ⟨some 152, .fld 0 (.tmp 10), none⟩, ⟨some 153, .fld 1 (.tmp 152), none⟩, ⟨some 154, .load false 1
    (.tmp 153), none⟩, ⟨some 155, .bin .gtr (.tmp 151) (.tmp 154), none⟩, ⟨some 156, .mv (.tmp 155), none⟩, ⟨some 157, .mv (.tmp 9), some (156, false)⟩, ⟨some 158, .bin .gtr (.tmp
    157) (.const (.int .i64 0)), some (156, false)⟩, ⟨some 159, .mv (.tmp 158), some (156, false)⟩, ⟨some 160, .fld 0 (.tmp 10), some (159, true)⟩, ⟨some 161, .fld 0 (.tmp 160),
    some (159, true)⟩, ⟨some 162, .load false 1 (.tmp 161), some (159, true)⟩, ⟨some 163, .fld 3 (.tmp 1), some (159, true)⟩, ⟨some 164, .load false 1 (.tmp 163), some (159, true)⟩,
    ⟨some 165, .mv (.tmp 9), some (159, true)⟩, ⟨some 166, .bin .sub (.tmp 165) (.const (.int .i64 1)), some (159, true)⟩, ⟨some 167, .idx 3 (.tmp 164) (.tmp 166), some (159,
    true)⟩, ⟨some 168, .fld 0 (.tmp 167), some (159, true)⟩, ⟨some 169, .fld 1 (.tmp 168), some (159, true)⟩, ⟨some 170, .load false 1 (.tmp 169), some (159, true)⟩, ⟨some 171, .bin
    .leq (.tmp 162) (.tmp 170), some (159, true)⟩, ⟨some 172, .pick (.tmp 159) (.tmp 171) (.const (.bool false)), some (156, false)⟩, ⟨some 173, .pick (.tmp 156) (.const (.bool
    true)) (.tmp 172), none⟩] [0, 1, 3, 0, 8, 24, 63, 127, 255, 511, 1023, 2047, 4095, 8191, 2047, 18431, 2047, 67583, 247807, 509951, 1034239, 2082815, 4194303, 8388607, 16777215]
    [0, 1, 2, 3, 4, 5, 6, 7, 8, 9, 10, 11, 12, 13, 14, 15, 16, 17, 18, 19, 20, 21, 22, 23, 24]) (.cond (.tmp 173) (.seq (.region [⟨some 174, .mv (.tmp 9), none⟩, ⟨some 2, .mv (.tmp
    174), none⟩, ⟨some 3, .mv (.const (.int .i64 9)), none⟩]) .ret) .skip))))) (.region [⟨some 123, .mv (.tmp 9), none⟩, ⟨some 124, .bin .add (.tmp 123) (.const (.int .i64 1)),
    none⟩, ⟨some 9, .mv (.tmp 124), none⟩])))))) (.seq (.seq (.region [⟨some 175, .fld 4 (.tmp 1), none⟩, ⟨some 176, .load false 1 (.tmp 175), none⟩, ⟨some 177, .call (.func 115)
    [(.tmp 176)], none⟩, ⟨some 178, .un .not (.tmp 177), none⟩, ⟨some 179, .mv (.tmp 178), none⟩, ⟨some 180, .fld 5 (.tmp 1), some (179, false)⟩, ⟨some 181, .load false 1 (.tmp
    180), some (179, false)⟩, ⟨some 182, .call (.func 115) [(.tmp 181)], some (179, false)⟩, ⟨some 183, .un .not (.tmp 182), some (179, false)⟩, ⟨some 184, .pick (.tmp 179) (.const
    (.bool true)) (.tmp 183), none⟩, ⟨some 185, .mv (.tmp 184), none⟩, ⟨some 186, .fld 6 (.tmp 1), some (185, false)⟩, ⟨some 187, .load false 1 (.tmp 186), some (185, false)⟩, ⟨some
    188, .call (.func 115) [(.tmp 187)], some (185, false)⟩, ⟨some 189, .un .not (.tmp 188), some (185, false)⟩, ⟨some 190, .pick (.tmp 185) (.const (.bool true)) (.tmp 189), none⟩,
    ⟨some 191, .mv (.tmp 190), none⟩, ⟨some 192, .fld 7 (.tmp 1), some (191, false)⟩, ⟨some 193, .load false 1 (.tmp 192), some (191, false)⟩, ⟨some 194, .call (.func 116) [(.tmp
    193)], some (191, false)⟩, ⟨some 195, .un .not (.tmp 194), some (191, false)⟩, ⟨some 196, .pick (.tmp 191) (.const (.bool true)) (.tmp 195), none⟩]) (.cond (.tmp 196) (.seq
    (.region [⟨some 2, .mv (.const (.int .i64 0)), none⟩, ⟨some 3, .mv (.const (.int .i64 2)), none⟩]) .ret) .skip)) (.seq (.region [⟨some 2, .mv (.const (.int .i64 0)), none⟩,
    ⟨some 3, .mv (.const (.int .i64 0)), none⟩]) .ret)))))))))))
theorem low74 : lowF Tryz.prog [1] Tryz.f74 = some (197, lc74.strip, [.tmp 2, .tmp 3]) := by kernel_rfl
theorem fn74 : FnOk Tryz.prog 74 197 lc74 [.tmp 2, .tmp 3] := ⟨Tryz.call74, [1], _, Tryz.func74, low74⟩
/-- moonpool/moonpoolbase.Within -/
def lc75 : LCode :=
  (.seq (.region [⟨some 6, .mv (.const (.bool false)), none⟩]) (.seq (.region [⟨some 7, .mv (.tmp 1), none⟩, ⟨some 8, .mv (.tmp 0), none⟩, ⟨some 9, .bin .leq (.tmp 7) (.tmp 8),
    none⟩, ⟨some 10, .mv (.tmp 9), none⟩, ⟨some 11, .mv (.tmp 0), some (10, true)⟩, ⟨some 12, .mv (.tmp 2), some (10, true)⟩, ⟨some 13, .bin .leq (.tmp 11) (.tmp 12), some (10,
    true)⟩, ⟨some 14, .pick (.tmp 10) (.tmp 13) (.const (.bool false)), none⟩, ⟨some 6, .mv (.tmp 14), none⟩]) .ret))
theorem low75 : lowF Tryz.prog [] Tryz.f75 = some (15, lc75.strip, [.tmp 6]) := by kernel_rfl
theorem fn75 : FnOk Tryz.prog 75 15 lc75 [.tmp 6] := ⟨Tryz.call75, [], _, Tryz.func75, low75⟩
/-- moonpool/moonpoolref08.Return -/
def lc76 : LCode :=
  (.seq (.region [⟨some 2, .boxS (.tmp 0), none⟩, ⟨some 3, .boxS (.tmp 1), none⟩, ⟨some 4, .alloc [(.int .i64 0), (.int .i64 0)], none⟩]) (.seq (.regionD [⟨some 6, .load true 8
    (.tmp 2), none⟩, ⟨some 7, .fld 2 (.tmp 2), none⟩, ⟨some 8, .load false 1 (.tmp 7), none⟩, ⟨some 9, .fld 0 (.tmp 3), none⟩, ⟨some 10, .load false 1 (.tmp 9), none⟩, ⟨some 11,
    .idx 1 (.tmp 8) (.tmp 10), none⟩, ⟨some 12, .load false 1 (.tmp 11), none⟩, ⟨some 13, .fld 1 (.tmp 3), none⟩, ⟨some 14, .load false 1 (.tmp 13), none⟩, ⟨some 15, .call (.func
    82) [(.tmp 6), (.tmp 12), (.tmp 14)], none⟩, ⟨some 5, .mv (.tmp 15), none⟩] [0, 0, 2, 0, 8, 30, 62, 0, 128, 511, 1023] [0, 1, 2, 3, 4, 5, 6, 7, 8, 9, 10]) (.seq (.region [⟨some
    16, .mv (.tmp 5), none⟩, ⟨some 17, .mv (.tmp 5), none⟩, ⟨some 18, .fld 5 (.tmp 2), none⟩, ⟨some 19, .load false 1 (.tmp 18), none⟩, ⟨some 20, .bin .mul (.tmp 17) (.tmp 19),
    none⟩, ⟨some 21, .build [(.int .i64 0), (.int .i64 0)] [(0, 1, (.tmp 16)), (1, 1, (.tmp 20))], none⟩, ⟨none, .store 2 (.tmp 4) (.tmp 21), none⟩]) .ret)))
theorem low76 : lowF Tryz.prog [2, 3] Tryz.f76 = some (22, lc76.strip, [.cell 4 true 2]) := by kernel_rfl
theorem fn76 : FnOk Tryz.prog 76 22 lc76 [.cell 4 true 2] := ⟨Tryz.call76, [2, 3], _, Tryz.func76, low76⟩
/-- (moonpool/dive.dive).stepped -/
def lc78 : LCode :=
  (.seq (.region [⟨some 2, .boxS (.tmp 0), none⟩, ⟨some 4, .alloc [(.slice none 0 0), (.slice none 0 0), (.slice none 0 0), (.slice none 0 0), (.int .i64 0), (.int .i64 0), (.int
    .i64 0), (.int .i64 0), (.int .i64 0), (.int .i64 0), (.int .i64 0), (.int .i64 0), (.slice none 0 0)], none⟩, ⟨some 5, .mv (.const (.int .i64 0)), none⟩]) (.seq (.seq (.region
    [⟨some 8, .mv (.tmp 1), none⟩, ⟨some 9, .fld 0 (.tmp 2), none⟩, ⟨some 10, .fld 0 (.tmp 9), none⟩, ⟨some 11, .load false 1 (.tmp 10), none⟩, ⟨some 12, .len (.tmp 11), none⟩,
    ⟨some 13, .bin .sub (.tmp 12) (.const (.int .i64 1)), none⟩, ⟨some 14, .call (.func 69) [(.tmp 8), (.const (.int .i64 0)), (.tmp 13)], none⟩, ⟨some 15, .un .not (.tmp 14),
    none⟩]) (.cond (.tmp 15) (.seq (.region [⟨some 16, .load true 13 (.tmp 2), none⟩, ⟨none, .store 13 (.tmp 4) (.tmp 16), none⟩, ⟨some 5, .mv (.const (.int .i64 6)), none⟩]) .ret)
    .skip)) (.seq (.region [⟨some 17, .fld 0 (.tmp 2), none⟩, ⟨some 18, .fld 0 (.tmp 17), none⟩, ⟨some 19, .load false 1 (.tmp 18), none⟩, ⟨some 20, .mv (.tmp 1), none⟩, ⟨some 21,
    .idx 9 (.tmp 19) (.tmp 20), none⟩, ⟨some 22, .fld 8 (.tmp 21), none⟩, ⟨some 23, .load false 1 (.tmp 22), none⟩, ⟨some 24, .mkfn 117 [(.tmp 2)], none⟩, ⟨some 25, .call (.func 56)
    [(.tmp 23), (.tmp 24)], none⟩, ⟨some 6, .mv (.tmp 25), none⟩]) (.seq (.seq (.region [⟨some 26, .load true 13 (.tmp 2), none⟩, ⟨some 27, .mv (.tmp 1), none⟩, ⟨some 28, .call
    (.func 57) [(.tmp 26), (.tmp 27)], none⟩, ⟨some 29, .un .not (.tmp 28), none⟩, ⟨some 30, .call (.func 55) [(.tmp 29), (.const (.int .i64 23))], none⟩, ⟨some 31, .mv (.tmp 6),
    none⟩, ⟨some 32, .un .not (.tmp 31), none⟩, ⟨some 33, .call (.func 55) [(.tmp 32), (.const (.int .i64 9))], none⟩, ⟨some 34, .lit false 33 1 [(.tmp 30), (.tmp 33)], none⟩, ⟨some
    35, .call (.func 54) [(.tmp 34)], none⟩, ⟨some 7, .mv (.tmp 35), none⟩]) (.seq (.region [⟨some 36, .mv (.tmp 7), none⟩, ⟨some 37, .bin .neq (.tmp 36) (.const (.int .i64 0)),
    none⟩]) (.cond (.tmp 37) (.seq (.region [⟨some 38, .load true 13 (.tmp 2), none⟩, ⟨some 39, .mv (.tmp 7), none⟩, ⟨none, .store 13 (.tmp 4) (.tmp 38), none⟩, ⟨some 5, .mv (.tmp
    39), none⟩]) .ret) .skip))) (.seq (.region [⟨some 40, .load true 13 (.tmp 2), none⟩, ⟨some 41, .mv (.tmp 1), none⟩, ⟨some 42, .call (.func 100) [(.tmp 40), (.tmp 41)], none⟩,
    ⟨some 43, .ext (.tmp 42) 0, none⟩, ⟨some 44, .ext (.tmp 42) 1, none⟩, ⟨none, .store 13 (.tmp 4) (.tmp 43), none⟩, ⟨some 5, .mv (.tmp 44), none⟩]) .ret)))))
theorem low78 : lowF Tryz.prog [2] Tryz.f78 = some (45, lc78.strip, [.cell 4 true 13, .tmp 5]) := by kernel_rfl
theorem fn78 : FnOk Tryz.prog 78 45 lc78 [.cell 4 true 13, .tmp 5] := ⟨Tryz.call78, [2], _, Tryz.func78, low78⟩
/-- slices.Clone[[]int,int] -/
def lc80 : LCode :=
  (.seq (.region [⟨some 2, .mv (.const (.slice none 0 0)), none⟩]) (.seq (.seq (.region [⟨some 3, .mv (.tmp 0), none⟩, ⟨some 4, .isnil false (.tmp 3), none⟩]) (.cond (.tmp 4) (.seq
    (.region [⟨some 2, .mv (.const (.slice none 0 0)), none⟩]) .ret) .skip)) (.seq (.region [⟨some 5, .lit false 3 1 [], none⟩, ⟨some 6, .mv (.tmp 0), none⟩, ⟨some 7, .append true 3
    1 8 (.tmp 5) (.tmp 6), none⟩, ⟨some 2, .mv (.tmp 7), none⟩]) .ret)))
theorem low80 : lowF Tryz.prog [7] Tryz.f80 = some (8, lc80.strip, [.tmp 2]) := by kernel_rfl
theorem fn80 : FnOk Tryz.prog 80 8 lc80 [.tmp 2] := ⟨Tryz.call80, [7], _, Tryz.func80, low80⟩
/-- moonpool/dive.value -/
def lc81 : LCode :=
  (.seq (.region [⟨some 2, .boxS (.tmp 0), none⟩, ⟨some 4, .mv (.const (.int .i64 0)), none⟩]) (.seq (.region [⟨some 5, .mv (.const (.int .i64 0)), none⟩]) (.seq (.seq (.region
    [⟨some 8, .mv (.tmp 1), none⟩, ⟨some 9, .len (.tmp 8), none⟩, ⟨some 10, .mv (.const (.int .i64 0)), none⟩]) (.block 0 (.loop (.seq (.region [⟨some 11, .bin .lss (.tmp 10) (.tmp
    9), none⟩]) (.seq (.cond (.tmp 11) .skip (.exit 0)) (.seq (.block 1 (.seq (.region [⟨some 12, .idx 1 (.tmp 8) (.tmp 10), none⟩, ⟨some 13, .load false 1 (.tmp 12), none⟩, ⟨some
    7, .mv (.tmp 13), none⟩]) (.region [⟨some 14, .mv (.tmp 5), none⟩, ⟨some 15, .fld 0 (.tmp 2), none⟩, ⟨some 16, .load false 1 (.tmp 15), none⟩, ⟨some 17, .mv (.tmp 7), none⟩,
    ⟨some 18, .idx 9 (.tmp 16) (.tmp 17), none⟩, ⟨some 19, .fld 5 (.tmp 18), none⟩, ⟨some 20, .load false 1 (.tmp 19), none⟩, ⟨some 21, .bin .add (.tmp 14) (.tmp 20), none⟩, ⟨some
    5, .mv (.tmp 21), none⟩]))) (.region [⟨some 22, .bin .add (.tmp 10) (.const (.int .i64 1)), none⟩, ⟨some 10, .mv (.tmp 22), none⟩]))))))) (.seq (.region [⟨some 23, .mv (.tmp 5),
    none⟩, ⟨some 4, .mv (.tmp 23), none⟩]) .ret))))
theorem low81 : lowF Tryz.prog [2] Tryz.f81 = some (24, lc81.strip, [.tmp 4]) := by kernel_rfl
theorem fn81 : FnOk Tryz.prog 81 24 lc81 [.tmp 4] := ⟨Tryz.call81, [2], _, Tryz.func81, low81⟩
/-- moonpool/moonpoolref08.swim -/
def lc82 : LCode :=
  (.seq (.region [⟨some 3, .boxS (.tmp 0), none⟩, ⟨some 6, .mv (.const (.int .i64 0)), none⟩]) (.seq (.seq (.region [⟨some 8, .mv (.tmp 1), none⟩, ⟨some 9, .bin .eql (.tmp 8)
    (.const (.int .i64 0)), none⟩]) (.cond (.tmp 9) (.seq (.region [⟨some 6, .mv (.const (.int .i64 0)), none⟩]) .ret) .skip)) (.seq (.seq (.region [⟨some 7, .mv (.const (.int .i64
    0)), none⟩]) (.block 0 (.loop (.seq (.seq (.region [⟨some 10, .mv (.tmp 7), none⟩, ⟨some 11, .fld 3 (.tmp 3), none⟩, ⟨some 12, .load false 1 (.tmp 11), none⟩, ⟨some 13, .len
    (.tmp 12), none⟩, ⟨some 14, .bin .lss (.tmp 10) (.tmp 13), none⟩]) (.cond (.tmp 14) .skip (.exit 0))) (.seq (.block 1 (.seq (.regionD [⟨some 17, .mv (.tmp 2), none⟩, ⟨some 18,
    .fld 3 (.tmp 3), none⟩, ⟨some 19, .load false 1 (.tmp 18), none⟩, ⟨some 20, .mv (.tmp 7), none⟩, ⟨some 21, .idx 3 (.tmp 19) (.tmp 20), none⟩, ⟨some 22, .fld 0 (.tmp 21), none⟩,
    ⟨some 23, .fld 0 (.tmp 22), none⟩, ⟨some 24, .load false 1 (.tmp 23), none⟩, ⟨some 25, .fld 3 (.tmp 3), none⟩, ⟨some 26, .load false 1 (.tmp 25), none⟩, ⟨some 27, .mv (.tmp 7),
    none⟩, ⟨some 28, .idx 3 (.tmp 26) (.tmp 27), none⟩, ⟨some 29, .fld 0 (.tmp 28), none⟩, ⟨some 30, .fld 1 (.tmp 29), none⟩, ⟨some 31, .load false 1 (.tmp 30), none⟩, ⟨some 32,
    .call (.func 75) [(.tmp 17), (.tmp 24), (.tmp 31)], none⟩] [0, 0, 2, 0, 14, 30, 62, 126, 0, 256, 0, 1792, 3840, 7936, 16128, 32767] [0, 1, 2, 3, 4, 5, 6, 7, 8, 9, 10, 11, 12,
    13, 14, 15]) (.cond (.tmp 32) (.seq (.region [⟨some 33, .mv (.tmp 1), none⟩, ⟨some 34, .fld 3 (.tmp 3), none⟩, ⟨some 35, .load false 1 (.tmp 34), none⟩, ⟨some 36, .mv (.tmp 7),
    none⟩, ⟨some 37, .idx 3 (.tmp 35) (.tmp 36), none⟩, ⟨some 38, .fld 2 (.tmp 37), none⟩, ⟨some 39, .load false 1 (.tmp 38), none⟩, ⟨some 40, .bin .add (.tmp 33) (.tmp 39), none⟩,
    ⟨some 6, .mv (.tmp 40), none⟩]) .ret) .skip))) (.region [⟨some 15, .mv (.tmp 7), none⟩, ⟨some 16, .bin .add (.tmp 15) (.const (.int .i64 1)), none⟩, ⟨some 7, .mv (.tmp 16),
    none⟩])))))) (.seq (.region [⟨some 41, .mv (.tmp 1), none⟩, ⟨some 6, .mv (.tmp 41), none⟩]) .ret))))
theorem low82 : lowF Tryz.prog [3] Tryz.f82 = some (42, lc82.strip, [.tmp 6]) := by kernel_rfl
theorem fn82 : FnOk Tryz.prog 82 42 lc82 [.tmp 6] := ⟨Tryz.call82, [3], _, Tryz.func82, low82⟩
/-- moonpool/dive.divisor -/
def lc83 : LCode :=
  (.seq (.region [⟨some 4, .mv (.const (.int .i64 0)), none⟩]) (.seq (.block 0 (.loop (.seq (.seq (.region [⟨some 5, .mv (.tmp 1), none⟩, ⟨some 6, .bin .neq (.tmp 5) (.const (.int
    .i64 0)), none⟩]) (.cond (.tmp 6) .skip (.exit 0))) (.block 1 (.regionD [⟨some 7, .mv (.tmp 1), none⟩, ⟨some 8, .mv (.tmp 0), none⟩, ⟨some 9, .mv (.tmp 1), none⟩, ⟨some 10, .bin
    .rem (.tmp 8) (.tmp 9), none⟩, ⟨some 0, .mv (.tmp 7), none⟩, ⟨some 1, .mv (.tmp 10), none⟩] [0, 0, 0, 6, 3, 31] [0, 1, 2, 3, 4, 5]))))) (.seq (.region [⟨some 11, .mv (.tmp 0),
    none⟩, ⟨some 12, .mv (.tmp 0), none⟩, ⟨some 13, .un .neg (.tmp 12), none⟩, ⟨some 14, .mm true [(.tmp 11), (.tmp 13)], none⟩, ⟨some 4, .mv (.tmp 14), none⟩]) .ret)))
theorem low83 : lowF Tryz.prog [] Tryz.f83 = some (15, lc83.strip, [.tmp 4]) := by kernel_rfl
theorem fn83 : FnOk Tryz.prog 83 15 lc83 [.tmp 4] := ⟨Tryz.call83, [], _, Tryz.func83, low83⟩
/-- moonpool/dive.isNumber -/
def lc84 : LCode :=
  (.seq (.region [⟨some 2, .mv (.const (.bool false)), none⟩]) (.seq (.region [⟨some 3, .mv (.tmp 0), none⟩, ⟨some 4, .call (.func 69) [(.tmp 3), (.const (.int .i64 0)), (.const
    (.int .i64 10000))], none⟩, ⟨some 2, .mv (.tmp 4), none⟩]) .ret))
theorem low84 : lowF Tryz.prog [] Tryz.f84 = some (5, lc84.strip, [.tmp 2]) := by kernel_rfl
theorem fn84 : FnOk Tryz.prog 84 5 lc84 [.tmp 2] := ⟨Tryz.call84, [], _, Tryz.func84, low84⟩
/-- (moonpool/dive.dive).bound -/
def lc85 : LCode :=
  (.seq (.region [⟨some 2, .boxS (.tmp 0), none⟩, ⟨some 3, .boxS (.tmp 1), none⟩, ⟨some 4, .alloc [(.int .i64 0), (.int .i64 0)], none⟩]) (.seq (.region [⟨some 8, .fld 0 (.tmp 3),
    none⟩, ⟨some 9, .load false 1 (.tmp 8), none⟩, ⟨some 10, .fld 8 (.tmp 2), none⟩, ⟨some 11, .fld 2 (.tmp 10), none⟩, ⟨some 12, .load false 1 (.tmp 11), none⟩, ⟨some 13, .fld 0
    (.tmp 2), none⟩, ⟨some 14, .fld 6 (.tmp 13), none⟩, ⟨some 15, .load false 1 (.tmp 14), none⟩, ⟨some 16, .bin .sub (.tmp 12) (.tmp 15), none⟩, ⟨some 17, .bin .mul (.tmp 9) (.tmp
    16), none⟩, ⟨some 5, .mv (.tmp 17), none⟩]) (.seq (.seq (.region [⟨some 18, .fld 0 (.tmp 2), none⟩, ⟨some 19, .fld 0 (.tmp 18), none⟩, ⟨some 20, .load false 1 (.tmp 19), none⟩,
    ⟨some 21, .len (.tmp 20), none⟩, ⟨some 22, .mv (.const (.int .i64 0)), none⟩]) (.block 0 (.loop (.seq (.region [⟨some 23, .bin .lss (.tmp 22) (.tmp 21), none⟩]) (.seq (.cond
    (.tmp 23) .skip (.exit 0)) (.seq (.block 1 (.seq (.region [⟨some 24, .mv (.tmp 22), none⟩, ⟨some 25, .idx 9 (.tmp 20) (.tmp 22), none⟩, ⟨some 26, .load true 9 (.tmp 25), none⟩,
    ⟨some 7, .alloc [(.string ⟨#[]⟩), (.int .i64 0), (.int .i64 0), (.int .i64 0), (.int .i64 0), (.int .i64 0), (.int .i64 0), (.int .i64 0), (.slice none 0 0)], none⟩, ⟨some 6,
    .mv (.tmp 24), none⟩, ⟨none, .store 9 (.tmp 7) (.tmp 26), none⟩]) (.seq (.region [⟨some 27, .load true 13 (.tmp 2), none⟩, ⟨some 28, .mv (.tmp 6), none⟩, ⟨some 29, .call (.func
    57) [(.tmp 27), (.tmp 28)], none⟩, ⟨some 30, .un .not (.tmp 29), none⟩]) (.cond (.tmp 30) (.region [⟨some 31, .mv (.tmp 5), none⟩, ⟨some 32, .fld 5 (.tmp 7), none⟩, ⟨some 33,
    .load false 1 (.tmp 32), none⟩, ⟨some 34, .fld 1 (.tmp 3), none⟩, ⟨some 35, .load false 1 (.tmp 34), none⟩, ⟨some 36, .bin .mul (.tmp 33) (.tmp 35), none⟩, ⟨some 37, .fld 3
    (.tmp 7), none⟩, ⟨some 38, .load false 1 (.tmp 37), none⟩, ⟨some 39, .fld 0 (.tmp 3), none⟩, ⟨some 40, .load false 1 (.tmp 39), none⟩, ⟨some 41, .bin .mul (.tmp 38) (.tmp 40),
    none⟩, ⟨some 42, .bin .sub (.tmp 36) (.tmp 41), none⟩, ⟨some 43, .mm true [(.const (.int .i64 0)), (.tmp 42)], none⟩, ⟨some 44, .bin .add (.tmp 31) (.tmp 43), none⟩, ⟨some 5,
    .mv (.tmp 44), none⟩]) .skip)))) (.region [⟨some 45, .bin .add (.tmp 22) (.const (.int .i64 1)), none⟩, ⟨some 22, .mv (.tmp 45), none⟩]))))))) (.seq (.region [⟨some 46, .mv
    (.tmp 5), none⟩, ⟨some 47, .fld 1 (.tmp 3), none⟩, ⟨some 48, .load false 1 (.tmp 47), none⟩, ⟨some 49, .call (.func 86) [(.tmp 46), (.tmp 48)], none⟩, ⟨none, .store 2 (.tmp 4)
    (.tmp 49), none⟩]) .ret))))
theorem low85 : lowF Tryz.prog [2, 3] Tryz.f85 = some (50, lc85.strip, [.cell 4 true 2]) := by kernel_rfl
theorem fn85 : FnOk Tryz.prog 85 50 lc85 [.cell 4 true 2] := ⟨Tryz.call85, [2, 3], _, Tryz.func85, low85⟩
/-- moonpool/dive.fraction -/
def lc86 : LCode :=
  (.seq (.region [⟨some 4, .alloc [(.int .i64 0), (.int .i64 0)], none⟩]) (.seq (.region [⟨some 6, .mv (.tmp 0), none⟩, ⟨some 7, .mv (.tmp 1), none⟩, ⟨some 8, .call (.func 83)
    [(.tmp 6), (.tmp 7)], none⟩, ⟨some 5, .mv (.tmp 8), none⟩]) (.seq (.regionD [⟨some 9, .mv (.tmp 0), none⟩, ⟨some 10, .mv (.tmp 5), none⟩, ⟨some 11, .bin .quo (.tmp 9) (.tmp 10),
    none⟩, ⟨some 12, .mv (.tmp 1), none⟩, ⟨some 13, .mv (.tmp 5), none⟩, ⟨some 14, .bin .quo (.tmp 12) (.tmp 13), none⟩, ⟨some 15, .build [(.int .i64 0), (.int .i64 0)] [(0, 1,
    (.tmp 11)), (1, 1, (.tmp 14))], none⟩, ⟨none, .store 2 (.tmp 4) (.tmp 15), none⟩] [0, 0, 3, 0, 0, 24, 63, 127] [0, 1, 2, 3, 4, 5, 6, 7]) .ret)))
theorem low86 : lowF Tryz.prog [] Tryz.f86 = some (16, lc86.strip, [.cell 4 true 2]) := by kernel_rfl
theorem fn86 : FnOk Tryz.prog 86 16 lc86 [.cell 4 true 2] := ⟨Tryz.call86, [], _, Tryz.func86, low86⟩
/-- slices.MinFunc[[]moonpool/api.Frac,moonpool/api.Frac] -/
def lc87 : LCode :=
  (.seq (.region [⟨some 4, .alloc [(.int .i64 0), (.int .i64 0)], none⟩]) (.seq (.seq (.region [⟨some 7, .mv (.tmp 0), none⟩, ⟨some 8, .len (.tmp 7), none⟩, ⟨some 9, .bin .lss (.tmp
    8) (.const (.int .i64 1)), none⟩]) (.cond (.tmp 9) (.region [⟨some 10, .bad, none⟩, ⟨none, .bad, none⟩]) .skip)) (.seq (.region [⟨some 11, .mv (.tmp 0), none⟩, ⟨some 12, .idx 2
    (.tmp 11) (.const (.int .i64 0)), none⟩, ⟨some 13, .load true 2 (.tmp 12), none⟩, ⟨some 5, .alloc [(.int .i64 0), (.int .i64 0)], none⟩, ⟨none, .store 2 (.tmp 5) (.tmp 13),
    none⟩]) (.seq (.seq (.region [⟨some 6, .mv (.const (.int .i64 1)), none⟩]) (.block 0 (.loop (.seq (.seq (.region [⟨some 14, .mv (.tmp 6), none⟩, ⟨some 15, .mv (.tmp 0), none⟩,
    ⟨some 16, .len (.tmp 15), none⟩, ⟨some 17, .bin .lss (.tmp 14) (.tmp 16), none⟩]) (.cond (.tmp 17) .skip (.exit 0))) (.seq (.block 1 (.seq (.regionD [⟨some 20, .mv (.tmp 1),
    none⟩, ⟨some 21, .mv (.tmp 0), none⟩, ⟨some 22, .mv (.tmp 6), none⟩, ⟨some 23, .idx 2 (.tmp 21) (.tmp 22), none⟩, ⟨some 24, .load true 2 (.tmp 23), none⟩, ⟨some 25, .load true 2
    (.tmp 5), none⟩, ⟨some 26, .call (.tmp 20) [(.tmp 24), (.tmp 25)], none⟩, ⟨some 27, .bin .lss (.tmp 26) (.const (.int .i64 0)), none⟩] [0, 0, 0, 6, 14, 0, 63, 127] [0, 1, 2, 3,
    4, 5, 6, 7]) (.cond (.tmp 27) (.region [⟨some 28, .mv (.tmp 0), none⟩, ⟨some 29, .mv (.tmp 6), none⟩, ⟨some 30, .idx 2 (.tmp 28) (.tmp 29), none⟩, ⟨some 31, .load true 2 (.tmp
    30), none⟩, ⟨none, .store 2 (.tmp 5) (.tmp 31), none⟩]) .skip))) (.region [⟨some 18, .mv (.tmp 6), none⟩, ⟨some 19, .bin .add (.tmp 18) (.const (.int .i64 1)), none⟩, ⟨some 6,
    .mv (.tmp 19), none⟩])))))) (.seq (.region [⟨some 32, .load true 2 (.tmp 5), none⟩, ⟨none, .store 2 (.tmp 4) (.tmp 32), none⟩]) .ret)))))
theorem low87 : lowF Tryz.prog [] Tryz.f87 = some (33, lc87.strip, [.cell 4 true 2]) := by kernel_rfl
theorem fn87 : FnOk Tryz.prog 87 33 lc87 [.cell 4 true 2] := ⟨Tryz.call87, [], _, Tryz.func87, low87⟩
/-- moonpool/dive.BestPrice$1 -/
def lc88 : LCode :=
  (.seq (.region [⟨some 3, .boxS (.tmp 0), none⟩, ⟨some 4, .boxS (.tmp 1), none⟩, ⟨some 5, .mv (.const (.int .i64 0)), none⟩]) (.seq (.regionD [⟨some 6, .load true 13 (.tmp 2),
    none⟩, ⟨some 7, .load true 2 (.tmp 3), none⟩, ⟨some 8, .call (.func 85) [(.tmp 6), (.tmp 7)], none⟩, ⟨some 9, .load true 13 (.tmp 2), none⟩, ⟨some 10, .load true 2 (.tmp 4),
    none⟩, ⟨some 11, .call (.func 85) [(.tmp 9), (.tmp 10)], none⟩, ⟨some 12, .call (.func 89) [(.tmp 8), (.tmp 11)], none⟩, ⟨some 13, .load true 2 (.tmp 3), none⟩, ⟨some 14, .load
    true 2 (.tmp 4), none⟩, ⟨some 15, .call (.func 89) [(.tmp 13), (.tmp 14)], none⟩, ⟨some 16, .lit false 3 1 [(.tmp 12), (.tmp 15)], none⟩, ⟨some 17, .call (.func 60) [(.tmp 16)],
    none⟩, ⟨some 5, .mv (.tmp 17), none⟩] [0, 0, 3, 0, 0, 31, 63, 0, 0, 511, 1023, 2047, 4095] [0, 1, 2, 3, 4, 5, 6, 7, 8, 9, 10, 11, 12]) .ret))
theorem low88 : lowF Tryz.prog [3, 4] Tryz.f88 = some (18, lc88.strip, [.tmp 5]) := by kernel_rfl
theorem fn88 : FnOk Tryz.prog 88 18 lc88 [.tmp 5] := ⟨Tryz.call88, [3, 4], _, Tryz.func88, low88⟩
/-- moonpool/dive.compare -/
def lc89 : LCode :=
  (.seq (.region [⟨some 2, .boxS (.tmp 0), none⟩, ⟨some 3, .boxS (.tmp 1), none⟩, ⟨some 4, .mv (.const (.int .i64 0)), none⟩]) (.seq (.region [⟨some 5, .fld 0 (.tmp 2), none⟩, ⟨some
    6, .load false 1 (.tmp 5), none⟩, ⟨some 7, .fld 1 (.tmp 3), none⟩, ⟨some 8, .load false 1 (.tmp 7), none⟩, ⟨some 9, .bin .mul (.tmp 6) (.tmp 8), none⟩, ⟨some 10, .fld 0 (.tmp
    3), none⟩, ⟨some 11, .load false 1 (.tmp 10), none⟩, ⟨some 12, .fld 1 (.tmp 2), none⟩, ⟨some 13, .load false 1 (.tmp 12), none⟩, ⟨some 14, .bin .mul (.tmp 11) (.tmp 13), none⟩,
    ⟨some 15, .call (.func 61) [(.tmp 9), (.tmp 14)], none⟩, ⟨some 4, .mv (.tmp 15), none⟩]) .ret))
theorem low89 : lowF Tryz.prog [2, 3] Tryz.f89 = some (16, lc89.strip, [.tmp 4]) := by kernel_rfl
theorem fn89 : FnOk Tryz.prog 89 16 lc89 [.tmp 4] := ⟨Tryz.call89, [2, 3], _, Tryz.func89, low89⟩
end Go.Pw
