/- Steps toward the row of this claim: part 3 of 4. Proved as named below, on no condition but those that each theorem states. -/
import Derived.Test.YtggcobcogdhfhaaTopSonarHeardB
import Derived.ProofKit
import Derived.Deep.Slices
import Derived.Test.YtggcobcogdhfhaaProg
set_option linter.unusedVariables false
namespace Go.Pw
open Go Go.RowKit
section
variable (P : Program) (N base : Nat) (M : List Nat)
def isLoad : LOp → Bool
  | .load _ _ _ => true
  | _ => false
theorem load_same {ev : Operand → V} {σ σ' : Store} {nx nx' : Nat} {op : LOp} {ob : Prop} {v : V} (hl : isLoad op = true) (h : xop ev σ nx op = some (ob, v, σ', nx')) : σ' = σ := by
  cases op with
  | load g n a =>
    simp only [xop] at h
    split at h
    · split at h
      · split at h
        · obtain ⟨_, h⟩ := tkc_some _ _ _ _ h; cases h; rfl
        · split at h <;> first | (cases h; rfl) | cases h
      · cases h
    · split at h
      · obtain ⟨_, h⟩ := tkd_some _ _ _ _ h; cases h; rfl
      · split at h <;> first | (cases h; rfl) | cases h
    · split at h
      · split at h
        · split at h
          · obtain ⟨_, h⟩ := tkd_some _ _ _ _ h; cases h; rfl
          · split at h <;> first | (cases h; rfl) | cases h
        · cases h
      · cases h
    · cases h
  | _ => simp [isLoad] at hl
def runID (i : LIns) (env : List (Nat × V)) (σ : Store) (nx : Nat) (p : Option Prop) (acc : List (Bool × List Nat)) (k : List (Nat × V) → Store → Nat → Option Prop → List (Bool × List Nat) → Prop) (stuck : Prop) : Prop :=
  match xop (evo env) (pickS σ (foot (evo env) i.op)) nx i.op with
  | some (ob, v, σ1, _) => match owes (evo env) i.op with
    | true => match foot (evo env) i.op, σ1 with
      | [], [] => frNat (nx + 1) fun nx' => putK i.dst v env fun env' => k env' σ nx' (andO p ob) ((true, []) :: acc)
      | ft, σ1 => frS (app (pickS σ ft) σ1 σ) fun σ' => frN (dom (pickS σ ft) ++ dom σ1) fun fp => frNat (nx + 1) fun nx' => putK i.dst v env fun env' => k env' σ' nx' (andO p ob) ((isLoad i.op, fp) :: acc)
    | false => match foot (evo env) i.op, σ1 with
      | [], [] => frNat (nx + 1) fun nx' => putK i.dst v env fun env' => k env' σ nx' p ((true, []) :: acc)
      | ft, σ1 => frS (app (pickS σ ft) σ1 σ) fun σ' => frN (dom (pickS σ ft) ++ dom σ1) fun fp => frNat (nx + 1) fun nx' => putK i.dst v env fun env' => k env' σ' nx' p ((isLoad i.op, fp) :: acc)
  | none => flush p stuck
abbrev OpsD' (ops : List LIns) (st : St) (acc : List (Bool × List Nat)) (K : St → Prop) : Prop := OpsD P N base M 0 [] ops st acc K
structure OpsDL (ops : List LIns) (st : St) (acc : List (Bool × List Nat)) (K : St → Prop) : Prop where
  h : OpsD P N base M 0 [] ops st acc K
def wpD : List LIns → List (Nat × V) → Store → Nat → Option Prop → List (Bool × List Nat) → (St → Prop) → Prop
  | [], env, σ, nx, p, acc, K => match fpAll M 0 acc.reverse with
    | true => flush p (K ⟨env, σ, nx⟩)
    | false => False
  | i :: os, env, σ, nx, p, acc, K => match guardOf env i.guard with
    | .run => runID i env σ nx p acc (fun env σ nx p acc => wpD os env σ nx p acc K) (OpsDL P N base M (i :: os) ⟨env, σ, nx⟩ acc K)
    | .skip => putK i.dst (.tup []) env fun env => wpD os env σ nx p ((true, []) :: acc) K
    | .stop => match i.guard with
      | some (t, want) => match lk env t with
        | .c (.d (.v (.bool b))) => match want with
          | true => flush p (Fork b (runID i ((t, .c .tru) :: env) σ nx none acc (fun env σ nx p acc => wpD os env σ nx p acc K) (OpsDL P N base M (i :: os) ⟨(t, .c .tru) :: env, σ, nx⟩ acc K))
              (putK i.dst (.tup []) ((t, .c .fls) :: env) fun env => wpD os env σ nx none ((true, []) :: acc) K))
          | false => flush p (Fork b (putK i.dst (.tup []) ((t, .c .tru) :: env) fun env => wpD os env σ nx none ((true, []) :: acc) K)
              (runID i ((t, .c .fls) :: env) σ nx none acc (fun env σ nx p acc => wpD os env σ nx p acc K) (OpsDL P N base M (i :: os) ⟨(t, .c .fls) :: env, σ, nx⟩ acc K)))
        | _ => flush p (OpsDL P N base M (i :: os) ⟨env, σ, nx⟩ acc K)
      | none => flush p (OpsDL P N base M (i :: os) ⟨env, σ, nx⟩ acc K)
variable {P N base M}
theorem runID_spec {i : LIns} {os : List LIns} {env : List (Nat × V)} {σ : Store} {nx : Nat} {p : Option Prop} {acc : List (Bool × List Nat)} {K : St → Prop} (hg : guardOf env i.guard = .run)
    (ih : ∀ env σ nx p acc, wpD P N base M os env σ nx p acc K → okO p ∧ OpsD' P N base M os ⟨env, σ, nx⟩ acc K)
    (h : runID i env σ nx p acc (fun env σ nx p acc => wpD P N base M os env σ nx p acc K) (OpsDL P N base M (i :: os) ⟨env, σ, nx⟩ acc K)) : okO p ∧ OpsD' P N base M (i :: os) ⟨env, σ, nx⟩ acc K := by
  unfold runID at h
  split at h
  · rename_i ob v σ1 nx1 hx
    simp only [frNat_eq, putK_eq, frS_eq, frN_eq] at h
    have hgo : ∀ (rd : Bool) p', (rd = true → σ1 = pickS σ (foot (evo env) i.op)) → wpD P N base M os (putE env i.dst v) (app (pickS σ (foot (evo env) i.op)) σ1 σ) (nx + 1) p' ((rd, dom (pickS σ (foot (evo env) i.op)) ++ dom σ1) :: acc) K → (okO p' → okO p ∧ ob) → okO p ∧ OpsD' P N base M (i :: os) ⟨env, σ, nx⟩ acc K := fun rd p' hrd h hp => by
      obtain ⟨h1, h2⟩ := ih _ _ _ _ _ h
      obtain ⟨h3, h4⟩ := hp h1
      exact ⟨h3, OpsD.step (k := 0) (st := ⟨env, σ, nx⟩) (VStep.xop hg hx h4) (pickS_sub _) (Nat.le_refl _) (Nat.le_succ _) rd hrd h2⟩
    split at h
    · split at h
      · rename_i hft
        have := fun p' => hgo true p' (fun _ => by rw [hft]; rfl)
        simp only [hft, pickS, app, catS, dom, delD, List.append_nil] at this
        exact this _ h okO_and
      · exact hgo _ _ (fun hl => load_same hl hx) h okO_and
    · rename_i hw
      split at h
      · rename_i hft
        have := fun p' => hgo true p' (fun _ => by rw [hft]; rfl)
        simp only [hft, pickS, app, catS, dom, delD, List.append_nil] at this
        exact this _ h fun hp => ⟨hp, owes_false hw hx⟩
      · exact hgo _ _ (fun hl => load_same hl hx) h fun hp => ⟨hp, owes_false hw hx⟩
  · exact ⟨(flush_iff h).1, (flush_iff h).2.h⟩
theorem OpsD.know' {ops : List LIns} {env : List (Nat × V)} {σ : Store} {nx : Nat} {acc : List (Bool × List Nat)} {K : St → Prop} (t : Nat) (b : Bool) (h : lk env t = vbl b) (hf : Fork b (OpsD' P N base M ops ⟨(t, .c .tru) :: env, σ, nx⟩ acc K) (OpsD' P N base M ops ⟨(t, .c .fls) :: env, σ, nx⟩ acc K)) : OpsD' P N base M ops ⟨env, σ, nx⟩ acc K :=
  OpsD.know (st := ⟨env, σ, nx⟩) t b h hf.t hf.f
theorem wpD_spec : ∀ (ops : List LIns) (env : List (Nat × V)) (σ : Store) (nx : Nat) (p : Option Prop) (acc : List (Bool × List Nat)) (K : St → Prop), wpD P N base M ops env σ nx p acc K → okO p ∧ OpsD' P N base M ops ⟨env, σ, nx⟩ acc K
  | [], env, σ, nx, p, acc, K, h => by
    unfold wpD at h
    split at h
    · rename_i hf
      obtain ⟨h1, h2⟩ := flush_iff h
      exact ⟨h1, OpsD.nil hf h2⟩
    · exact h.elim
  | i :: os, env, σ, nx, p, acc, K, h => by
    have ih := fun env σ nx p acc => wpD_spec os env σ nx p acc K
    have hskip : ∀ env, guardOf env i.guard = .skip → ∀ p, (putK i.dst (.tup []) env fun env => wpD P N base M os env σ nx p ((true, []) :: acc) K) → okO p ∧ OpsD' P N base M (i :: os) ⟨env, σ, nx⟩ acc K := fun env hg p h => by
      rw [putK_eq] at h
      obtain ⟨h1, h2⟩ := ih _ _ _ _ _ h
      exact ⟨h1, OpsD.step (k := 0) (σ0 := []) (σ1 := []) (st := ⟨env, σ, nx⟩) (VStep.skip (lo := nx) hg) (fun id e h => by simp [get] at h) (Nat.le_refl _) (Nat.le_refl _) true (fun _ => rfl) h2⟩
    unfold wpD at h
    split at h
    · rename_i hg; exact runID_spec hg ih h
    · rename_i hg; exact hskip env hg p h
    · rename_i hg
      split at h
      · rename_i t want hgu
        have gT : guardOf ((t, .c .tru) :: env) i.guard = (match want with | true => .run | false => .skip) := by
          cases want <;> simp [hgu, guardOf, lk_cons]
        have gF : guardOf ((t, .c .fls) :: env) i.guard = (match want with | true => .skip | false => .run) := by
          cases want <;> simp [hgu, guardOf, lk_cons]
        split at h
        · rename_i b hb
          split at h
          · obtain ⟨h1, h2⟩ := flush_iff h
            exact ⟨h1, OpsD.know' t b hb ⟨fun hh => (runID_spec gT ih (h2.t hh)).2, fun hh => (hskip _ gF _ (h2.f hh)).2⟩⟩
          · obtain ⟨h1, h2⟩ := flush_iff h
            exact ⟨h1, OpsD.know' t b hb ⟨fun hh => (hskip _ gT _ (h2.t hh)).2, fun hh => (runID_spec gF ih (h2.f hh)).2⟩⟩
        · exact ⟨(flush_iff h).1, (flush_iff h).2.h⟩
      · exact ⟨(flush_iff h).1, (flush_iff h).2.h⟩
theorem OpsD.wp {ops : List LIns} {env : List (Nat × V)} {σ : Store} {nx : Nat} {acc : List (Bool × List Nat)} {K : St → Prop} (h : wpD P N base M ops env σ nx none acc K) : OpsD' P N base M ops ⟨env, σ, nx⟩ acc K := (wpD_spec _ _ _ _ _ _ _ h).2
end
theorem Mv.nilms {base : Nat} {env : List (Nat × V)} {σ : Store} {nx : Nat} (t : Nat) (e : TypeId) (s : Nat) (f : Nat → List D) (h : lk env t = .c (.d (.v (.slice none 0 0)))) : Mv base ⟨env, σ, nx⟩ ⟨(t, .c (.ms nx 0)) :: env, (nx, .row e s 0 f false) :: σ, nx + 1⟩ :=
  fun _ _ _ _ _ hc => hc.nilms (st := ⟨env, σ, nx⟩) e s f h
theorem Mv.freeze {base : Nat} {env : List (Nat × V)} {σ : Store} {nx : Nat} (t id : Nat) {n : Nat} {e : TypeId} {s m : Nat} {f : Nat → List D} {fz : Bool} (h : lk env t = .c (.ms id n)) (hg : get σ id = some (.row e s m f fz)) (hn : n ≤ m) :
    Mv base ⟨env, σ, nx⟩ ⟨(t, .c (.d (.sl s n f))) :: env, set σ id (.row e s m f true), nx⟩ := fun N B0 Γ w a hc => by
  obtain ⟨Γ', b, hb, rfl, h1, h2⟩ := hc.freeze hg
  refine ⟨_, ⟨h1.size, fun t' => ?_, h1.ok, h1.free, h1.le, h1.dfs⟩, h2⟩
  rw [lk_cons]
  split
  · rename_i ht
    subst ht
    have := hc.env t
    rw [h] at this
    cases this with
    | c _ _ hr =>
      obtain ⟨b', hb', hd⟩ := ms_data hc.ok hg hn hr
      rw [hb] at hb'; cases hb'
      exact .c _ _ (hd _ (fun k hk => .inl hk) (fun hcc => .inr ⟨rfl, hcc⟩))
  · exact h1.env t'
/-- Slots say less. -/
theorem Mv.env {base : Nat} {env env' : List (Nat × V)} {σ : Store} {nx : Nat} (h : ∀ t, RI (lk env t) (lk env' t)) : Mv base ⟨env, σ, nx⟩ ⟨env', σ, nx⟩ := fun _ _ Γ _ _ hc => ⟨Γ, hc.same h fun _ => rfl, Ext.refl _ _ _ _⟩
theorem Mv.dd {base : Nat} {env : List (Nat × V)} {σ : Store} {nx : Nat} : Mv base ⟨env, σ, nx⟩ ⟨Pw.dd env [], σ, nx⟩ :=
  Mv.env fun t => by rw [lk_dd _ _ _ (by simp)]; exact RI.refl _
structure MvQ (base : Nat) (Q : Exit → St → Prop) (e : Exit) (st : St) : Prop where
  h : ∃ st1, Mv base st st1 ∧ Q e st1
section
variable {P : Program} {N base : Nat} {st st1 : St} {Q : Exit → St → Prop} {x : LCode}
theorem Sat.mv (h : Sat P N base x st (MvQ base Q)) : Sat P N base x st Q := by
  intro ro n B0 own code hro hl Γ0 Γ w0 w σ0 a hc hext
  refine wpIn_mono (h ro n B0 own code hro hl Γ0 Γ w0 w σ0 a hc hext) (fun e a' w' ⟨Γ', st', h1, h2, ⟨st2, h3, h4⟩⟩ => ?_)
  obtain ⟨Γ'', h5, h6⟩ := h3 _ _ _ _ _ h1
  exact ⟨Γ'', st2, h5, h2.trans h6, h4⟩
theorem Sat.from (hm : Mv base st st1) (h : Sat P N base x st1 Q) : Sat P N base x st Q := by
  intro ro n B0 own code hro hl Γ0 Γ w0 w σ0 a hc hext
  obtain ⟨Γ', h1, h2⟩ := hm _ _ _ _ _ hc
  exact h ro n B0 own code hro hl Γ0 Γ' w0 w σ0 a h1 (hext.trans h2)
theorem Ops.from {ops : List LIns} {K : St → Prop} (hm : Mv base st st1) (h : Ops P N base ops st1 K) : Ops P N base ops st K := by
  intro ro n B0 own opsA idx os hl hidx Γ0 Γ w0 w σ0 a hc hext
  obtain ⟨Γ', h1, h2⟩ := hm _ _ _ _ _ hc
  exact h ro n B0 own opsA idx os hl hidx Γ0 Γ' w0 w σ0 a h1 (hext.trans h2)
theorem MvQ.stay {e : Exit} (h : Q e st) : MvQ base Q e st := ⟨st, Mv.refl _ _, h⟩
theorem MvQ.from {e : Exit} (hm : Mv base st st1) (h : MvQ base Q e st1) : MvQ base Q e st := by
  obtain ⟨s2, h1, h2⟩ := h
  exact ⟨s2, hm.trans h1, h2⟩
end
section
variable (P : Program) (N base : Nat)
/-- Where the walk stops at a loop. -/
structure SatL (x : LCode) (st : St) (Q : Exit → St → Prop) : Prop where
  h : Sat P N base x.strip st Q
def wp : LCode → St → (Exit → St → Prop) → Prop
  | .skip, st, Q => Q .normal st
  | .exit id, st, Q => Q (.exit id) st
  | .ret, st, Q => Q .ret st
  | .region ops, ⟨env, σ, nx⟩, Q => wpOps P N base ops env σ nx none fun st => Q .normal st
  | .regionD ops M _, ⟨env, σ, nx⟩, Q => wpD P N base M ops env σ nx none [] fun st => Q .normal st
  | .seq a b, st, Q => wp a st fun e st => match e with
    | .normal => wp b st Q
    | e => Q e st
  | .cond c a b, ⟨env, σ, nx⟩, Q => match evo env c with
    | .c .tru => wp a ⟨env, σ, nx⟩ Q
    | .c .fls => wp b ⟨env, σ, nx⟩ Q
    | .c (.d (.v (.bool p))) => match c with
      | .tmp t => Fork p (wp a ⟨(t, .c .tru) :: env, σ, nx⟩ Q) (wp b ⟨(t, .c .fls) :: env, σ, nx⟩ Q)
      | _ => False
    | _ => False
  | .block id a, st, Q => wp a st fun e st => match e with
    | .exit k => match Nat.beq k id with
      | true => Q .normal st
      | false => Q (.exit k) st
    | e => Q e st
  | .loop a, st, Q => SatL P N base (.loop a) st (MvQ base Q)
  | .rangeFunc f ps a c, st, Q => SatL P N base (.rangeFunc f ps a c) st (MvQ base Q)
  | .label, st, Q => Q .normal st
  | .stop a, st, Q => SatL P N base a st Q
  | .scope a, st, Q => wp a st fun e st => match e with
    | .goto _ => False
    | e => Q e st
variable {P N base}
theorem wp_spec [m : Mix P] : ∀ (x : LCode) (st : St) (Q : Exit → St → Prop), wp P N base x st Q → Sat P N base x.strip st Q
  | .skip, st, Q, h => Sat.skip h
  | .exit id, st, Q, h => Sat.exit h
  | .ret, st, Q, h => Sat.ret h
  | .region ops, ⟨env, σ, nx⟩, Q, h => Sat.region (Ops.wp h)
  | .regionD ops M ks, ⟨env, σ, nx⟩, Q, h => Sat.drawn m.h (OpsD.wp h)
  | .seq a b, st, Q, h => Sat.seq ((wp_spec a st _ h).mono fun e st h => by
    cases e with
    | normal => exact wp_spec b st Q h
    | _ => exact h)
  | .cond c a b, ⟨env, σ, nx⟩, Q, h => by
    unfold wp at h
    split at h
    · rename_i hv; exact Sat.condT hv (wp_spec a _ Q h)
    · rename_i hv; exact Sat.condF hv (wp_spec b _ Q h)
    · rename_i p hv
      split at h
      · exact Sat.cond hv (fun hh => wp_spec a _ Q (h.t hh)) (fun hh => wp_spec b _ Q (h.f hh))
      · exact h.elim
    · exact h.elim
  | .block id a, st, Q, h => Sat.block ((wp_spec a st _ h).mono fun e st h => by
    cases e with
    | exit k =>
      simp only [blockQ]
      simp only at h
      split at h
      · rename_i hb; rw [if_pos hb]; exact h
      · rename_i hb; rw [if_neg (by rw [hb]; simp)]; exact h
    | _ => exact h)
  | .loop a, st, Q, h => Sat.mv h.h
  | .rangeFunc f ps a c, st, Q, h => Sat.mv h.h
  | .label, st, Q, h => Sat.label h
  | .stop a, st, Q, h => h.h
  | .scope a, st, Q, h => Sat.scope ((wp_spec a st _ h).mono fun e st h => by
    cases e with
    | goto l => exact h.elim
    | _ => exact h)
end
end Go.Pw

set_option linter.unusedVariables false
namespace Go.Pw
open Go Go.RowKit
section
variable {P : Program} {N base : Nat} {st : St} {Q : Exit → St → Prop}
theorem low_rangeFunc {own : List Nat} {code : Code} {f : Operand} {ps : List Nat} {la lb : LCode} (h : lowCode P N own code = some (.rangeFunc f ps la lb)) :
    ∃ qs a c, code = .rangeFunc f qs a c ∧ qs.toList = ps ∧ lowCode P N own a = some la ∧ lowCode P N own c = some lb := by
  cases code with
  | rangeFunc g qs a c =>
    simp only [lowCode, Option.bind_eq_bind, Option.bind_eq_some_iff, Option.some.injEq] at h
    obtain ⟨x, hx, y, hy, h⟩ := h
    cases h
    exact ⟨qs, a, c, rfl, rfl, hx, hy⟩
  | region id ops draw =>
    simp only [lowCode, Option.bind_eq_bind, Option.bind_eq_some_iff] at h
    obtain ⟨l, hl, h⟩ := h
    split at h
    · split at h <;> simp at h
    · simp at h
  | _ => simp [lowCode, Option.bind_eq_some_iff] at h
/-- A new block that is nobody's. -/
theorem alloc_mark {base : Nat} {Γ : Cx} {w : World} {σ : Store} (h : StoreOk Γ w σ) (o : Obj) : StoreOk Γ (w.alloc o) σ ∧ Ext base Γ w σ Γ (w.alloc o) σ :=
  ⟨h.keep (CxLe.refl _) (fun k hI => by have := h.im k hI; simp; omega) (alloc_same h o) (fun k hl => heap_alloc (h.live_lt hl)) (fun k hl hI => h.not_live hI hl),
    Ext.grow (Γ := Γ) (Γ' := Γ) (w := w) (w' := w.alloc o) (fun _ _ => rfl) (fun _ _ => rfl) (fun _ h => h) (fun k h => .inl h) rfl rfl rfl (by simp) (fun k hk _ => heap_alloc hk) _ (fun k hk => .inl hk)⟩
/-- How a range over a function ends. -/
def rangeQ (id : Nat) (env : List (Nat × V)) (Q : Exit → St → Prop) (σ' : Store) (nx' : Nat) : Prop :=
  match get σ' id with
  | some (.lp _ .ready none _) => Q .normal ⟨env, del σ' id, nx'⟩
  | some (.lp _ .done (some .ret) _) => Q .ret ⟨env, del σ' id, nx'⟩
  | some (.lp _ .done (some (.exit k)) _) => Q (.exit k) ⟨env, del σ' id, nx'⟩
  | _ => False
theorem rangeQ_iff {id : Nat} {env : List (Nat × V)} {σ' : Store} {nx' : Nat} (h : rangeQ id env Q σ' nx') :
    ∃ env' s j R, get σ' id = some (.lp env' s j R) ∧ s ≠ .busy ∧ ((j = none ∧ Q .normal ⟨env, del σ' id, nx'⟩) ∨ (j = some .ret ∧ Q .ret ⟨env, del σ' id, nx'⟩) ∨ ∃ k, j = some (.exit k) ∧ Q (.exit k) ⟨env, del σ' id, nx'⟩) := by
  unfold rangeQ at h
  split at h
  · rename_i e R hg; exact ⟨_, _, _, _, hg, by simp, .inl ⟨rfl, h⟩⟩
  · rename_i e R hg; exact ⟨_, _, _, _, hg, by simp, .inr (.inl ⟨rfl, h⟩)⟩
  · rename_i e k R hg; exact ⟨_, _, _, _, hg, by simp, .inr (.inr ⟨_, rfl, h⟩)⟩
  · exact h.elim
theorem Sat.rangeFunc {f : Operand} {ps : List Nat} {la lb : LCode} {fid : FuncId} {ids : List Nat} (hf : evo st.env f = .c (.fn fid ids)) (hps : ps.all (fun p => decide (p < N)) = true)
    (h : CallS P fid (.c (.yd st.nx) :: ids.map fun k => .c (.bp k 0)) ((st.nx, .lp st.env .ready none (RR P N ps la lb)) :: st.σ) (st.nx + 1) fun _ σ' nx' => rangeQ st.nx st.env Q σ' nx') :
    Sat P N base (.rangeFunc f ps la lb) st Q := by
  intro ro n B0 own code hro hl Γ0 Γ w0 w σ0 a hc hext
  obtain ⟨qs, ca, cb, rfl, hqs, hla, hlb⟩ := low_rangeFunc hl
  have hro' := hro rfl
  subst hro'
  have hfr := hc.ev f
  rw [hf] at hfr
  obtain ⟨bs, hbl, hbs, hfu⟩ : ∃ bs : List Nat, bs.length = ids.length ∧ (∀ (j i : Nat), ids[j]? = some i → ∃ b, Γ.ρ i = some b ∧ bs[j]? = some b) ∧ a.eval f = .func (.func fid) #[] (bs.map fun b => ptr b 0).toArray := by
    generalize a.eval f = u at hfr ⊢
    cases hfr with | c _ _ h => exact h
  refine wpIn_rangeFunc (fun fn _ => ?_)
  let wa := w.alloc (.deferred (some []))
  have hsza : wa.heap.size = w.heap.size + 1 := by simp [wa]
  let r0 : Loop := { state := .ready, pending := none, fn, tmps := a.tmps, params := qs, assign := ca, body := cb, defers := w.heap.size }
  let w1 := wa.alloc (.loop r0)
  obtain ⟨hsta, hexta⟩ := alloc_mark (base := st.nx) hc.ok (.deferred (some []))
  have hid := hc.free st.nx (Nat.le_refl _)
  have hRR : RR P N ps la lb { r0 with state := .ready, pending := none } :=
    ⟨hc.size, hqs, fun p hp => by simpa using List.all_eq_true.1 hps p hp, own, hla, hlb⟩
  have hent : EntOk (Γ.upd st.nx wa.heap.size none) (wa.alloc (.loop r0)) st.nx wa.heap.size (.lp st.env .ready none (RR P N ps la lb)) := by
    refine ⟨fun hI => ?_, r0, heap_alloc_new' _ _, rfl, rfl, hRR, fun t => ?_⟩
    · have := hc.ok.im _ hI; omega
    · exact (hc.env t).mono (CxLe.upd _ _ _ hid) (fun k hk => by
        have := hc.ok.im k hk
        rw [heap_alloc (by omega), show wa.heap[k]? = w.heap[k]? from heap_alloc this])
  obtain ⟨hst1, hext1⟩ := alloc_ent (base := st.nx) hsta hid (Nat.le_refl _) (.loop r0) none _ hent
  have hrep : RepL (Γ.upd st.nx wa.heap.size none) w1 (.c (.yd st.nx) :: ids.map fun k => .c (.bp k 0)) (#[Value.func (.yield (w.heap.size + 1)) #[] #[]] ++ (bs.map fun b => ptr b 0).toArray) := by
    refine ⟨by simp [hbl], fun j v u hv hu => ?_⟩
    cases j with
    | zero =>
      simp at hv hu
      subst hv; subst hu
      exact .c _ _ ⟨wa.heap.size, upd_ρ_same, by rw [hsza]⟩
    | succ j =>
      simp only [List.getElem?_cons_succ, List.getElem?_map, Option.map_eq_some_iff] at hv
      obtain ⟨k, hk, rfl⟩ := hv
      obtain ⟨b, hb, hb'⟩ := hbs j k hk
      rw [Array.getElem?_append_right (by simp)] at hu
      simp [hb'] at hu
      subst hu
      refine .c _ _ ⟨b, ?_, rfl⟩
      rw [upd_ρ (fun e => by rw [e] at hb; rw [hid] at hb; cases hb)]; exact hb
  have hfree1 : ∀ id, st.nx + 1 ≤ id → (Γ.upd st.nx wa.heap.size none).ρ id = none := fun id h => by
    rw [upd_ρ (by omega)]; exact hc.free id (by omega)
  have hres : (resolve a.eval (rangeCall f (w.heap.size + 1)) 0).run P w1 = .ok { target := .fn (.func fid) (bs.map fun b => ptr b 0).toArray, args := #[.func (.yield (w.heap.size + 1)) #[] #[]] } w1 := by
    unfold resolve
    simp only [hfu, Deferred.ofValue]
    simp [Act.eval]
  have he : (Instr.enterLoop fn a.tmps qs ca cb (FW none).round).run P w = .ok (w.heap.size + 1, [mkD w.heap.size]) w1 := run_enterLoop_outer fn a.tmps qs ca cb
  have hinv : (invoke (Target.fn (.func fid) (bs.map fun b => ptr b 0).toArray) #[.func (.yield (w.heap.size + 1)) #[] #[]]).run P w1 = .ok (.enter fid (#[.func (.yield (w.heap.size + 1)) #[] #[]] ++ (bs.map fun b => ptr b 0).toArray)) w1 := h.1 _ _
  have hcall := h.2 _ w1 _ hst1 hfree1 hrep
  have hpost : ∀ e w', (∃ u v Γ' σ' nx', e = .returned u ∧ rangeQ st.nx st.env Q σ' nx' ∧ RepV Γ' w' v u ∧ StoreOk Γ' w' σ' ∧ Ext (st.nx + 1) (Γ.upd st.nx wa.heap.size none) w1 ((st.nx, .lp st.env .ready none (RR P N ps la lb)) :: st.σ) Γ' w' σ' ∧ (∀ id, nx' ≤ id → Γ'.ρ id = none) ∧ st.nx + 1 ≤ nx') →
      rangePost (FW none) n P (w.heap.size + 1) (Post N B0 base Γ0 w0 σ0 Q) { a with defers := [mkD w.heap.size] ++ a.defers } e w' := by
    rintro e w' ⟨u, v, Γ', σ', nx', rfl, hR, hv, hst', hext', hfree', hle'⟩
    obtain ⟨env', s, j, R, hlp, hsb, hj⟩ := rangeQ_iff hR
    obtain ⟨b, r, hb, hh, hs, hjr, _, _⟩ := lp_rec hst' hlp
    have hb1 : b = w.heap.size + 1 := by
      rw [hext'.ρ st.nx (Nat.lt_succ_self _), upd_ρ_same] at hb
      cases hb; rw [hsza]
    subst hb1
    have hend := run_endLoop (P := P) hh (by rw [hs]; exact hsb)
    let w4 := w'.putObj (w.heap.size + 1) (.loop { r with state := .exhausted })
    obtain ⟨hst4, hext4⟩ := set_lp (s' := .exhausted) (j' := r.pending) hst' hlp hb hh
    have hsub : Sub (del σ' st.nx) (set σ' st.nx (.lp env' .exhausted r.pending R)) := fun id x hx => by
      by_cases he : id = st.nx
      · subst he; rw [get_del_same] at hx; cases hx
      · rw [get_del_other he] at hx; rw [get_set_other he]; exact hx
    have hst5 : StoreOk Γ' w4 (del σ' st.nx) := hst4.sub hsub
    have hE : Ext st.nx Γ wa st.σ Γ' w4 (del σ' st.nx) := by
      have h1 := (hext1.trans (hext'.mono (Nat.le_succ _))).trans (hext4 st.nx)
      exact ⟨h1.os, h1.tape, h1.output, h1.size, h1.im, h1.new, h1.ρ, h1.κ, h1.keep, fun k hk => h1.live k (live_sub hsub hk)⟩
    have hEw : Ext st.nx Γ w st.σ Γ' w4 (del σ' st.nx) := hexta.trans hE
    have hle : CxLe Γ Γ' := ext_cxle hEw hc.free
    have hsame := hEw.same hc.ok
    have hconc : Conc N B0 base Γ' w4 ⟨st.env, del σ' st.nx, nx'⟩ { a with defers := [mkD w.heap.size] ++ a.defers } := by
      refine ⟨hc.size, fun t => (hc.env t).mono hle hsame, hst5, hfree', by have := hc.le; show base ≤ nx'; omega, ?_⟩
      obtain ⟨Ds, d1, d2, d3⟩ := hc.dfs
      have hnl : ¬ Live Γ st.σ w.heap.size := fun hl => Nat.lt_irrefl _ (hc.ok.live_lt hl)
      refine ⟨w.heap.size :: Ds, by simp [d1], ⟨List.nodup_cons.2 ⟨fun hm => ?_, d2.1⟩, Nat.le_trans d2.2 hEw.size⟩, fun D hD => ?_⟩
      · have := (Array.getElem?_eq_some_iff.1 (d3 _ hm).2.2.2).1; omega
      · rcases List.mem_cons.1 hD with rfl | hD
        · refine ⟨d2.2, fun hi => ?_, fun hlv => ?_, ?_⟩
          · rcases hE.new _ hi with h1 | h1 | h1
            · exact Nat.lt_irrefl _ (hc.ok.im _ h1)
            · omega
            · exact hnl h1
          · rcases hE.live _ hlv with h1 | h1
            · exact hnl h1
            · omega
          · rw [hE.keep _ (by omega) hnl]; exact heap_alloc_new' _ _
        · obtain ⟨d4, d5, d6, d7⟩ := d3 D hD
          have hlt : D < w.heap.size := (Array.getElem?_eq_some_iff.1 d7).1
          refine ⟨d4, fun hi => ?_, fun hlv => ?_, (hEw.keep D hlt d6).trans d7⟩
          · rcases hEw.new D hi with h1 | h1 | h1
            · exact d5 h1
            · omega
            · exact d6 h1
          · rcases hEw.live D hlv with h1 | h1
            · exact d6 h1
            · omega
    have hEx : Ext base Γ0 w0 σ0 Γ' w4 (del σ' st.nx) := hext.trans (hEw.mono hc.le)
    refine ⟨r.pending, w4, hend, ?_⟩
    rcases hj with ⟨rfl, hq⟩ | ⟨rfl, hq⟩ | ⟨k, rfl, hq⟩
    · rw [hjr]; exact ⟨Γ', _, hconc, hEx, hq⟩
    · rw [hjr]; exact wpIn_ret ⟨Γ', _, hconc, hEx, hq⟩
    · rw [hjr]; exact wpIn_exit ⟨Γ', _, hconc, hEx, hq⟩
  exact ⟨w.heap.size + 1, [mkD w.heap.size], w1, _, w1, fid, _, w1, he, hres, fun _ _ => trivial, hinv, fun h => by simp [FW, Fence.wide] at h, Calls.fw (hcall.mono hpost)⟩
end
end Go.Pw

set_option linter.unusedVariables false
set_option linter.unusedSectionVars false
namespace Go.Pw
open Go Go.RowKit
/-- A function's lowered code. -/
structure FnOk (P : Program) (f : FuncId) (N : Nat) (lc : LCode) (rl : List RL) : Prop where
  ent : Ent1 P f
  ok : ∃ own fn, P.funcs[f]? = some fn ∧ lowF P own fn = some (N, lc.strip, rl)
section
variable {P : Program} [m : Mix P] {N base : Nat}
theorem Sat.of {x : LCode} {st : St} {Q : Exit → St → Prop} (h : wp P N base x st Q) : Sat P N base x.strip st Q := wp_spec x st Q h
theorem SatL.go {x : LCode} {st : St} {Q : Exit → St → Prop} (h : wp P N base x st Q) : SatL P N base x st Q := ⟨wp_spec x st Q h⟩
theorem PFD.of {f : FuncId} {lc : LCode} {rl : List RL} {args vs : List V} (hf : FnOk P f N lc rl) (hN : Nat.ble args.length N = true) (hc : cloL args)
    (h : wp P N 0 lc ⟨argEnv 0 args, [], 0⟩ (RetQ 0 rl vs [] 0)) : PFD P f args (retV vs) := by
  obtain ⟨hent, own, fn, h1, h2⟩ := hf
  exact PFD.enter vs h1 hent h2 (Nat.le_of_ble_eq_true hN) hc (Sat.of h)
def normC : C → C
  | .tru => .d (.v (.bool true))
  | .fls => .d (.v (.bool false))
  | c => c
def normA : V → V
  | .c x => .c (normC x)
  | .agg cs => .agg (cs.map normC)
  | v => v
theorem normC_eq (c : C) : CEq c (normC c) := by cases c <;> first | exact .tru | exact .fls | exact .refl _
theorem normA_eq (v : V) : VEq v (normA v) := by
  cases v with
  | c x => exact .c _ _ (normC_eq x)
  | agg cs =>
    refine .agg _ _ (by simp) (fun i x y hx hy => ?_)
    simp only [List.getElem?_map, hx, Option.map_some, Option.some.injEq] at hy
    subst hy
    exact normC_eq x
  | _ => exact .refl _
theorem ris_norm : ∀ (xs : List V), RIs xs (xs.map normA)
  | [] => .nil
  | x :: xs => .cons (normA_eq x).ri (ris_norm xs)
theorem VEqs.ris : ∀ {xs ys : List V}, VEqs xs ys → RIs xs ys
  | [], [], _ => .nil
  | x :: xs, y :: ys, h => .cons h.1.ri (VEqs.ris h.2)
  | [], _ :: _, h => h.elim
  | _ :: _, [], h => h.elim
/-- Forms of the arguments: as they are (bools known or not). -/
structure Fits (env : List (Nat × V)) (xs : List Operand) (args : List V) : Prop where
  h : RIs (xs.map (evo env)) args
theorem Fits.eq {env : List (Nat × V)} {xs : List Operand} {args : List V} (h : (xs.map (evo env)).map normA = args) : Fits env xs args := ⟨h ▸ ris_norm _⟩
theorem Fits.veq {env : List (Nat × V)} {xs : List Operand} {args : List V} (h : VEqs (xs.map (evo env)) args) : Fits env xs args := ⟨h.ris⟩
theorem Ops.pc {dst : Option Nat} {fop : Operand} {xs : List Operand} {g : Option (Nat × Bool)} {rest : List LIns} {env : List (Nat × V)} {σ : Store} {nx : Nat} {K : St → Prop} {f : FuncId} {args : List V} {v : V} (hf : evo env fop = .c (.fn f [])) (ha : Fits env xs args) (hc : PFD P f args v)
    (hg : guardOf env g = .run) (h : putK dst v env fun env' => wpOps P N base rest env' σ nx none K) : OpsL P N base (⟨dst, .call fop xs, g⟩ :: rest) ⟨env, σ, nx⟩ K := by
  rw [putK_eq] at h
  exact ⟨Ops.pcall (i := ⟨dst, .call fop xs, g⟩) (st := ⟨env, σ, nx⟩) hg rfl hf ha.h hc (Ops.wp h)⟩
theorem OpsD.pc {M : List Nat} {acc : List (Bool × List Nat)} {dst : Option Nat} {fop : Operand} {xs : List Operand} {g : Option (Nat × Bool)} {rest : List LIns} {env : List (Nat × V)} {σ : Store} {nx : Nat} {K : St → Prop} {f : FuncId} {args : List V} {v : V} (hf : evo env fop = .c (.fn f [])) (ha : Fits env xs args) (hc : PFD P f args v)
    (hg : guardOf env g = .run) (h : putK dst v env fun env' => wpD P N base M rest env' σ nx none ((false, []) :: acc) K) : OpsDL P N base M (⟨dst, .call fop xs, g⟩ :: rest) ⟨env, σ, nx⟩ acc K := by
  rw [putK_eq] at h
  exact ⟨OpsD.pcall (k := 0) (ks := []) (i := ⟨dst, .call fop xs, g⟩) (st := ⟨env, σ, nx⟩) hg rfl hf ha.h hc (OpsD.wp h)⟩
theorem Ops.pcR {dst : Option Nat} {fop : Operand} {xs : List Operand} {g : Option (Nat × Bool)} {rest : List LIns} {env : List (Nat × V)} {σ : Store} {nx : Nat} {K : St → Prop} {f : FuncId} {rows : List (List D)} {args : List V} {v : V} (hf : evo env fop = .c (.fnR f rows)) (ha : RIs (xs.map (evo env) ++ rows.map fun r => .c (.rp r)) args) (hc : PFD P f args v)
    (hg : guardOf env g = .run) (h : putK dst v env fun env' => wpOps P N base rest env' σ nx none K) : OpsL P N base (⟨dst, .call fop xs, g⟩ :: rest) ⟨env, σ, nx⟩ K := by
  rw [putK_eq] at h
  exact ⟨Ops.pcallR (i := ⟨dst, .call fop xs, g⟩) (st := ⟨env, σ, nx⟩) hg rfl hf ha hc (Ops.wp h)⟩
theorem OpsD.pcR {M : List Nat} {acc : List (Bool × List Nat)} {dst : Option Nat} {fop : Operand} {xs : List Operand} {g : Option (Nat × Bool)} {rest : List LIns} {env : List (Nat × V)} {σ : Store} {nx : Nat} {K : St → Prop} {f : FuncId} {rows : List (List D)} {args : List V} {v : V} (hf : evo env fop = .c (.fnR f rows)) (ha : RIs (xs.map (evo env) ++ rows.map fun r => .c (.rp r)) args) (hc : PFD P f args v)
    (hg : guardOf env g = .run) (h : putK dst v env fun env' => wpD P N base M rest env' σ nx none ((false, []) :: acc) K) : OpsDL P N base M (⟨dst, .call fop xs, g⟩ :: rest) ⟨env, σ, nx⟩ acc K := by
  rw [putK_eq] at h
  exact ⟨OpsD.pcallR (k := 0) (ks := []) (i := ⟨dst, .call fop xs, g⟩) (st := ⟨env, σ, nx⟩) hg rfl hf ha hc (OpsD.wp h)⟩
theorem OpsL.same {ops : List LIns} {st : St} {K : St → Prop} (h : OpsL P N base ops st K) : OpsL P N base ops st K := h
theorem OpsDL.same {M : List Nat} {ops : List LIns} {st : St} {acc : List (Bool × List Nat)} {K : St → Prop} (h : OpsDL P N base M ops st acc K) : OpsDL P N base M ops st acc K := h
theorem Fork.same {b : Bool} {p q : Prop} (h : Fork b p q) : Fork b p q := h
/-- A value, forced. -/
def frV (v : V) (k : V → Prop) : Prop :=
  match v with
  | .c x => k (.c x)
  | .agg cs => k (.agg cs)
  | .tup vs => k (.tup vs)
  | .unk => k .unk
theorem frV_eq (v : V) (k : V → Prop) : frV v k = k v := by cases v <;> rfl
def argK : Nat → List V → (List (Nat × V) → Prop) → Prop
  | _, [], k => k []
  | n, v :: vs, k => frV v fun v => frNat (n + 1) fun n' => argK n' vs fun e => k ((n, v) :: e)
theorem argK_eq : ∀ (vs : List V) (n : Nat) (k : List (Nat × V) → Prop), argK n vs k = k (argEnv n vs)
  | [], n, k => rfl
  | v :: vs, n, k => by simp only [argK, frV_eq, frNat_eq, argK_eq vs, argEnv]
def callQ (rl : List RL) (R : V → Store → Nat → Prop) : Exit → St → Prop
  | .normal, st => match resAll st.env st.σ rl with
    | some vs => R (retV vs) st.σ st.nx
    | none => False
  | .ret, st => match resAll st.env st.σ rl with
    | some vs => R (retV vs) st.σ st.nx
    | none => False
  | _, _ => False
theorem CallS.of {f : FuncId} {lc : LCode} {rl : List RL} {args : List V} {σ : Store} {nx : Nat} {R : V → Store → Nat → Prop} (hf : FnOk P f N lc rl) (hN : Nat.ble args.length N = true)
    (h : argK 0 args fun env => wp P N nx lc ⟨env, σ, nx⟩ (callQ rl R)) : CallS P f args σ nx R := by
  rw [argK_eq] at h
  obtain ⟨hent, own, fn, h1, h2⟩ := hf
  refine CallS.enter h1 hent h2 (Nat.le_of_ble_eq_true hN) ((Sat.of h).mono fun e st h => ?_)
  unfold callQ at h
  split at h
  · split at h
    · rename_i vs hv; exact ⟨.inl rfl, vs, hv, h⟩
    · exact h.elim
  · split at h
    · rename_i vs hv; exact ⟨.inr rfl, vs, hv, h⟩
    · exact h.elim
  · exact h.elim
theorem Ops.cs {dst : Option Nat} {fop : Operand} {xs : List Operand} {g : Option (Nat × Bool)} {rest : List LIns} {env : List (Nat × V)} {σ : Store} {nx : Nat} {K : St → Prop} {f : FuncId} {ids : List Nat} (hf : evo env fop = .c (.fn f ids)) (hg : guardOf env g = .run)
    (h : CallS P f (xs.map (evo env) ++ ids.map fun k => .c (.bp k 0)) σ nx fun v σ' nx' => frV v fun v => frNat nx' fun nx' => putK dst v env fun env' => wpOps P N base rest env' σ' nx' none K) : OpsL P N base (⟨dst, .call fop xs, g⟩ :: rest) ⟨env, σ, nx⟩ K := by
  refine ⟨?_⟩
  refine Ops.callS (i := ⟨dst, .call fop xs, g⟩) (st := ⟨env, σ, nx⟩) hg rfl hf ?_
  simp only [frV_eq, frNat_eq, putK_eq] at h
  exact ⟨h.1, fun Γ w us h1 h2 h3 => (h.2 Γ w us h1 h2 h3).mono fun e w' ⟨u, v, Γ', σ', nx', q1, q2, q3⟩ => ⟨u, v, Γ', σ', nx', q1, Ops.wp q2, q3⟩⟩
structure Again0 {ι : Type} (inv : ι → List (Nat × V)) (pre : ι → Prop) (μ : ι → Nat) (i : ι) (st : St) : Prop where
  h : ∃ j, pre j ∧ μ j < μ i ∧ envIs st.env (inv j)
def lpQ0 {ι : Type} (inv : ι → List (Nat × V)) (pre : ι → Prop) (μ : ι → Nat) (i : ι) (Q : Exit → St → Prop) : Exit → St → Prop
  | .normal, st => Again0 inv pre μ i st
  | e, st => Q e st
structure Again {ι : Type} (base : Nat) (inv : ι → St) (pre : ι → Prop) (μ : ι → Nat) (i : ι) (st : St) : Prop where
  h : ∃ j π, pre j ∧ μ j < μ i ∧ Wk base st (inv j) π
def lpQ {ι : Type} (base : Nat) (inv : ι → St) (pre : ι → Prop) (μ : ι → Nat) (i : ι) (Q : Exit → St → Prop) : Exit → St → Prop
  | .normal, st => Again base inv pre μ i st
  | e, st => Q e st
theorem Sat.lp0 {x : LCode} {st : St} {Q : Exit → St → Prop} {ι : Type} (inv : ι → List (Nat × V)) (pre : ι → Prop) (μ : ι → Nat) (i0 : ι) (h0 : pre i0) (hw : envIs st.env (inv i0))
    (round : ∀ i, pre i → wp P N base x ⟨inv i, [], base⟩ (lpQ0 inv pre μ i Q)) : SatL P N base (.loop x) st Q :=
  ⟨Sat.loop0 inv pre μ i0 h0 hw fun i hi => (Sat.of (round i hi)).mono fun e st h => by
    cases e with
    | normal => exact h.h
    | _ => exact h⟩
/-- Actual names for the head's names from base on. -/
def nmAt (base : Nat) (l : List Nat) (i : Nat) : Nat :=
  match Nat.ble base i with
  | true => l.getD (i - base) i
  | false => i
def distinct : List Nat → Bool
  | [] => true
  | x :: l => !(memN x l) && distinct l
def geAll (base : Nat) : List Nat → Bool
  | [] => true
  | x :: l => Nat.ble base x && geAll base l
def nmOk (base nx0 : Nat) (l : List Nat) : Bool := Nat.ble base nx0 && Nat.ble nx0 (base + l.length) && distinct l && geAll base l
theorem distinct_inj : ∀ {l : List Nat}, distinct l = true → ∀ (i j x : Nat), l[i]? = some x → l[j]? = some x → i = j
  | [], _, i, j, x, h, _ => by simp at h
  | y :: l, hd, i, j, x, hi, hj => by
    simp only [distinct, Bool.and_eq_true, Bool.not_eq_true'] at hd
    have hn : y ∉ l := fun h => by rw [memN_iff.2 h] at hd; cases hd.1
    cases i with
    | zero =>
      cases j with
      | zero => rfl
      | succ j =>
        simp only [List.getElem?_cons_zero, Option.some.injEq] at hi
        subst hi
        exact absurd (List.mem_of_getElem? (by simpa using hj)) hn
    | succ i =>
      cases j with
      | zero =>
        simp only [List.getElem?_cons_zero, Option.some.injEq] at hj
        subst hj
        exact absurd (List.mem_of_getElem? (by simpa using hi)) hn
      | succ j => rw [distinct_inj hd.2 i j x (by simpa using hi) (by simpa using hj)]
theorem geAll_get : ∀ {base : Nat} {l : List Nat}, geAll base l = true → ∀ x ∈ l, base ≤ x
  | _, [], _, x, h => by cases h
  | base, y :: l, hd, x, h => by
    simp only [geAll, Bool.and_eq_true] at hd
    rcases List.mem_cons.1 h with rfl | h
    · exact Nat.le_of_ble_eq_true hd.1
    · exact geAll_get hd.2 x h
theorem nmAt_lo {l : List Nat} {i : Nat} (h : i < base) : nmAt base l i = i := by
  unfold nmAt
  split
  · rename_i hb; have := Nat.le_of_ble_eq_true hb; omega
  · rfl
theorem nmAt_hi {l : List Nat} {i : Nat} (h : base ≤ i) : nmAt base l i = l.getD (i - base) i := by
  unfold nmAt
  split
  · rfl
  · rename_i hb; rw [Nat.ble_eq_true_of_le h] at hb; cases hb
def cLtB (n : Nat) : C → Bool
  | .fn _ ids => ltAll n ids
  | .bp id _ => Nat.blt id n
  | .ep id _ _ _ => Nat.blt id n
  | .ms id _ => Nat.blt id n
  | .yd id => Nat.blt id n
  | .mp id => Nat.blt id n
  | .sb id _ => Nat.blt id n
  | _ => true
  where ltAll (n : Nat) : List Nat → Bool
  | [] => true
  | i :: is => Nat.blt i n && ltAll n is
def csLtB (n : Nat) : List C → Bool
  | [] => true
  | c :: cs => cLtB n c && csLtB n cs
def vLtB (n : Nat) : V → Bool
  | .c x => cLtB n x
  | .agg cs => csLtB n cs
  | .tup _ => false
  | .unk => true
def envLtB (n : Nat) : List (Nat × V) → Bool
  | [] => true
  | (_, v) :: e => vLtB n v && envLtB n e
def eLtB (n : Nat) : Ent → Bool
  | .box cs => csLtB n cs
  | .row .. => true
  | .lp env _ _ _ => envLtB n env
  | .mp .. => true
def stoLtB (n : Nat) : Store → Bool
  | [] => true
  | (i, e) :: σ => Nat.blt i n && eLtB n e && stoLtB n σ
theorem blt_iff {a b : Nat} : Nat.blt a b = true ↔ a < b := by simp [Nat.blt_eq]
theorem ltAll_sound {n : Nat} : ∀ {l : List Nat}, cLtB.ltAll n l = true → ∀ i ∈ l, i < n
  | [], _, i, h => by cases h
  | x :: l, h, i, hi => by
    simp only [cLtB.ltAll, Bool.and_eq_true] at h
    rcases List.mem_cons.1 hi with rfl | hi
    · exact blt_iff.1 h.1
    · exact ltAll_sound h.2 i hi
theorem cLtB_sound {n : Nat} {c : C} (h : cLtB n c = true) : cLt n c := by
  cases c with
  | fn f ids => exact fun i hi => ltAll_sound h i hi
  | bp | ep | ms | yd | mp | sb => exact blt_iff.1 h
  | _ => trivial
theorem csLtB_sound {n : Nat} : ∀ {cs : List C}, csLtB n cs = true → csLt n cs
  | [], _ => trivial
  | c :: cs, h => by simp only [csLtB, Bool.and_eq_true] at h; exact ⟨cLtB_sound h.1, csLtB_sound h.2⟩
theorem vLtB_sound {n : Nat} {v : V} (h : vLtB n v = true) : vLt n v := by
  cases v with
  | c x => exact cLtB_sound h
  | agg cs => exact csLtB_sound h
  | tup => cases h
  | unk => trivial
theorem envLtB_sound {n : Nat} : ∀ {e : List (Nat × V)}, envLtB n e = true → envLt n e
  | [], _ => trivial
  | (_, v) :: e, h => by simp only [envLtB, Bool.and_eq_true] at h; exact ⟨vLtB_sound h.1, envLtB_sound h.2⟩
theorem eLtB_sound {n : Nat} {e : Ent} (h : eLtB n e = true) : eLt n e := by
  cases e with
  | box cs => exact csLtB_sound h
  | row => trivial
  | lp => exact envLtB_sound h
  | mp => trivial
/-- The slots and the entries of a head: what is, is what the head says (renamed). -/
def envEq (π : Nat → Nat) (env : List (Nat × V)) : List (Nat × V) → Prop
  | [] => True
  | (t, v) :: e0 => VEq (lk env t) (rnV π v) ∧ envEq π env e0
def stoEq (π : Nat → Nat) (σ : Store) : Store → Prop
  | [] => True
  | (id, x) :: σ0 => (match get σ (π id) with | some y => EEq y (rnE π x) | none => False) ∧ stoEq π σ σ0
theorem envEq.ok {n : Nat} {π : Nat → Nat} {env : List (Nat × V)} : ∀ {e0 : List (Nat × V)}, envLtB n e0 = true → envEq π env e0 → envOk n π env e0
  | [], _, _ => trivial
  | (t, v) :: e0, hl, h => by
    simp only [envLtB, Bool.and_eq_true] at hl
    exact ⟨⟨h.1, vLtB_sound hl.1⟩, envEq.ok hl.2 h.2⟩
theorem stoEq.ok {n : Nat} {π : Nat → Nat} {σ : Store} : ∀ {σ0 : Store}, stoLtB n σ0 = true → stoEq π σ σ0 → stoOk n π σ σ0
  | [], _, _ => stoOk.nil
  | (id, x) :: σ0, hl, h => by
    simp only [stoLtB, Bool.and_eq_true] at hl
    refine stoOk.cons (blt_iff.1 hl.1.1) (eLtB_sound hl.1.2) ?_ (stoEq.ok hl.2 h.2)
    have := h.1
    split at this
    · rename_i y hy; exact ⟨y, hy, this⟩
    · exact this.elim
/-- A state is a head's, under these names. -/
structure Is (base : Nat) (st st0 : St) (l : List Nat) : Prop where
  nm : (nmOk base st0.nx l && envLtB st0.nx st0.env && stoLtB st0.nx st0.σ) = true
  env : envEq (nmAt base l) st.env st0.env
  sto : stoEq (nmAt base l) st.σ st0.σ
theorem Is.wk {st st0 : St} {l : List Nat} (h : Is base st st0 l) : Wk base st st0 (nmAt base l) := by
  have h1 := h.nm
  simp only [nmOk, Bool.and_eq_true] at h1
  obtain ⟨⟨⟨⟨⟨a1, a2⟩, a3⟩, a4⟩, a5⟩, a6⟩ := h1
  have a1 := Nat.le_of_ble_eq_true a1
  have a2 := Nat.le_of_ble_eq_true a2
  have hget : ∀ i, base ≤ i → i < st0.nx → ∃ x, l[i - base]? = some x ∧ nmAt base l i = x ∧ base ≤ x := fun i h1 h2 => by
    have hlt : i - base < l.length := by omega
    refine ⟨l[i - base], by simp [hlt], ?_, geAll_get a4 _ (List.getElem_mem hlt)⟩
    rw [nmAt_hi h1, List.getD_eq_getElem?_getD, List.getElem?_eq_getElem hlt]; rfl
  refine ⟨fun i hi => nmAt_lo hi, fun i j hi hj he => ?_, a1, h.env.ok a5, h.sto.ok a6⟩
  rcases Nat.lt_or_ge i base with h1 | h1 <;> rcases Nat.lt_or_ge j base with h2 | h2
  · rw [nmAt_lo h1, nmAt_lo h2] at he; exact he
  · obtain ⟨x, _, hx, hx'⟩ := hget j h2 hj
    rw [nmAt_lo h1, hx] at he; omega
  · obtain ⟨x, _, hx, hx'⟩ := hget i h1 hi
    rw [nmAt_lo h2, hx] at he; omega
  · obtain ⟨x, hx, hx', _⟩ := hget i h1 hi
    obtain ⟨y, hy, hy', _⟩ := hget j h2 hj
    rw [hx', hy'] at he
    subst he
    have := distinct_inj a3 _ _ _ hx hy
    omega
/-- A loop whose head holds names. -/
theorem Sat.lp {x : LCode} {st : St} {Q : Exit → St → Prop} {ι : Type} (inv : ι → St) (pre : ι → Prop) (μ : ι → Nat) (i0 : ι) (l : List Nat) (h0 : pre i0) (hw : Is base st (inv i0) l)
    (round : ∀ i, pre i → wp P N base x (inv i) (lpQ base inv pre μ i Q)) : SatL P N base (.loop x) st Q :=
  ⟨Sat.loop inv pre μ i0 _ h0 hw.wk fun i hi => (Sat.of (round i hi)).mono fun e st h => by
    cases e with
    | normal => exact h.h
    | _ => exact h⟩
theorem again {ι : Type} {inv : ι → St} {pre : ι → Prop} {μ : ι → Nat} {i : ι} {st : St} (j : ι) (l : List Nat) (h : pre j) (hm : μ j < μ i) (hw : Is base st (inv j) l) : Again base inv pre μ i st :=
  ⟨j, _, h, hm, hw.wk⟩
theorem again0 {ι : Type} {inv : ι → List (Nat × V)} {pre : ι → Prop} {μ : ι → Nat} {i : ι} {st : St} (j : ι) (h : pre j) (hm : μ j < μ i) (hw : envIs st.env (inv j)) : Again0 inv pre μ i st :=
  ⟨j, h, hm, hw⟩
theorem Sat.rf {f : Operand} {ps : List Nat} {la lb : LCode} {fid : FuncId} {ids : List Nat} {env : List (Nat × V)} {σ : Store} {nx : Nat} {Q : Exit → St → Prop} (hf : evo env f = .c (.fn fid ids)) (hps : ps.all (fun p => decide (p < N)) = true)
    (h : frNat (nx + 1) fun nx1 => CallS P fid (.c (.yd nx) :: ids.map fun k => .c (.bp k 0)) ((nx, .lp env .ready none (RR P N ps la lb)) :: σ) nx1 fun _ σ' nx' => frNat nx' fun nx' => rangeQ nx env Q σ' nx') : SatL P N base (.rangeFunc f ps la lb) ⟨env, σ, nx⟩ Q := by
  simp only [frNat_eq] at h
  exact ⟨Sat.rangeFunc (st := ⟨env, σ, nx⟩) hf hps h⟩
/-- What a round comes to. -/
def yieldQ (id : Nat) (R : Loop → Prop) (next : V → Store → Nat → Prop) : Exit → St → Prop
  | .normal, st => ∃ env2 s2 j2, get st.σ id = some (.lp env2 s2 j2 R) ∧ frS (set st.σ id (.lp env2 .ready none R)) fun σ => next (.c .tru) σ st.nx
  | .ret, st => ∃ env2 s2 j2, get st.σ id = some (.lp env2 s2 j2 R) ∧ frS (set st.σ id (.lp env2 .done (some .ret) R)) fun σ => next (.c .fls) σ st.nx
  | .exit k, st => ∃ env2 s2 j2, get st.σ id = some (.lp env2 s2 j2 R) ∧ frS (set st.σ id (.lp env2 .done (some (.exit k)) R)) fun σ => next (.c .fls) σ st.nx
  | _, _ => False
def bindK : List Nat → List V → List (Nat × V) → (List (Nat × V) → Prop) → Prop
  | p :: ps, v :: vs, env, k => frV v fun v => bindK ps vs ((p, v) :: env) k
  | _, _, env, k => k env
theorem bindK_eq : ∀ (ps : List Nat) (vs : List V) (env : List (Nat × V)) (k : List (Nat × V) → Prop), bindK ps vs env k = k (bindE ps vs env)
  | [], vs, env, k => by simp [bindK, bindE]
  | p :: ps, [], env, k => by simp [bindK, bindE]
  | p :: ps, v :: vs, env, k => by simp only [bindK, frV_eq, bindK_eq ps vs, bindE]
theorem Ops.yd {id N' : Nat} {dst : Option Nat} {fop : Operand} {xs : List Operand} {g : Option (Nat × Bool)} {rest : List LIns} {env : List (Nat × V)} {σ : Store} {nx : Nat} {K : St → Prop} {env0 : List (Nat × V)} {ps : List Nat} {la lb : LCode} (hf : evo env fop = .c (.yd id)) (hg : guardOf env g = .run)
    (hlp : get σ id = some (.lp env0 .ready none (RR P N' ps la lb))) (hlen : Nat.beq ps.length xs.length = true) (hr : (la.ranges || lb.ranges) = false)
    (h : bindK ps (xs.map (evo env)) env0 fun e => Pw.wp P N' nx la ⟨e, σ, nx⟩ fun e st1 => e = .normal ∧ ∃ env1, get st1.σ id = some (.lp env1 .ready none (RR P N' ps la lb)) ∧
      frS (set st1.σ id (.lp env1 .busy none (RR P N' ps la lb))) fun σ' => frNat st1.nx fun nx1 => Pw.wp P N' nx lb ⟨st1.env, σ', nx1⟩ (yieldQ id (RR P N' ps la lb) fun v σ' nx' => frNat nx' fun nx' => putK dst v env fun env' => wpOps P N base rest env' σ' nx' none K)) (hsa : la.strip = la := by exact rfl) (hsb : lb.strip = lb := by exact rfl) :
    OpsL P N base (⟨dst, .call fop xs, g⟩ :: rest) ⟨env, σ, nx⟩ K := by
  rw [bindK_eq] at h
  refine ⟨?_⟩
  simp only [Bool.or_eq_false_iff] at hr
  refine Ops.yield (i := ⟨dst, .call fop xs, g⟩) (st := ⟨env, σ, nx⟩) hg rfl hf hlp (Nat.eq_of_beq_eq_true hlen) hr.1 hr.2 ((hsa ▸ Sat.of h : Sat P N' nx la _ _).mono fun e st1 ⟨he, env1, h1, h2⟩ => ⟨he, env1, h1, ?_⟩)
  rw [frS_eq, frNat_eq] at h2
  refine (hsb ▸ Sat.of h2 : Sat P N' nx lb _ _).mono fun e st2 h3 => ?_
  cases e with
  | normal =>
    obtain ⟨env2, s2, j2, hg2, h4⟩ := h3
    simp only [frNat_eq, putK_eq, frS_eq] at h4
    exact ⟨env2, s2, j2, hg2, Ops.wp h4⟩
  | ret =>
    obtain ⟨env2, s2, j2, hg2, h4⟩ := h3
    simp only [frNat_eq, putK_eq, frS_eq] at h4
    exact ⟨env2, s2, j2, hg2, Ops.wp h4⟩
  | exit k =>
    obtain ⟨env2, s2, j2, hg2, h4⟩ := h3
    simp only [frNat_eq, putK_eq, frS_eq] at h4
    exact ⟨env2, s2, j2, hg2, Ops.wp h4⟩
  | _ => exact h3.elim
end
end Go.Pw

set_option linter.unusedVariables false
namespace Go.Pw
open Go Go.RowKit
abbrev dI (n : Int) : D := .v (.int .i64 n)
abbrev int (n : Int) : C := .d (.v (.int .i64 n))
abbrev r1 (n : Int) : List D := [dI n]
abbrev r2 (p : Int × Int) : List D := [dI p.1, dI p.2]
abbrev r3 (p : Int × Int × Int) : List D := [dI p.1, dI p.2.1, dI p.2.2]
abbrev slv {α : Type} (s : Nat) (row : α → List D) (d : α) (l : List α) : C := .d (.sl s l.length fun i => row (l.getD i d))
abbrev ints (l : List Int) : C := slv 1 r1 0 l
abbrev prs (l : List (Int × Int)) : C := slv 2 r2 (0, 0) l
abbrev trs (l : List (Int × Int × Int)) : C := slv 3 r3 (0, 0, 0) l
/-- A row that is owned, and holds a list. -/
abbrev rowv {α : Type} (e : TypeId) (s : Nat) (row : α → List D) (d : α) (l : List α) : Ent := .row e s l.length (fun i => row (l.getD i d)) false
theorem VEq.ms {id n m : Nat} (h : n = m) : VEq (.c (.ms id n)) (.c (.ms id m)) := by subst h; exact .refl _
theorem CEq.ms {id n m : Nat} (h : n = m) : CEq (.ms id n) (.ms id m) := by subst h; exact .refl _
theorem CEq.int {k : IntKind} {a b : Int} (h : a = b) : CEq (.d (.v (.int k a))) (.d (.v (.int k b))) := by subst h; exact .refl _
theorem CEq.sl {s n m : Nat} {f g : Nat → List D} (hn : n = m) (h : ∀ i, i < n → f i = g i) : CEq (.d (.sl s n f)) (.d (.sl s m g)) := by subst hn; exact .d _ _ (.sl _ _ _ _ h)
theorem CEq.nil {s : Nat} {g : Nat → List D} : CEq (.d (.v (.slice none 0 0))) (.d (.sl s 0 g)) := .d _ _ (.nil s g)
theorem VEq.nil {s : Nat} {g : Nat → List D} : VEq (.c (.d (.v (.slice none 0 0)))) (.c (.d (.sl s 0 g))) := .c _ _ .nil
/-- The same list. -/
theorem VEq.sll {α : Type} {s : Nat} {row : α → List D} {d : α} {l m : List α} (h : l = m) : VEq (.c (slv s row d l)) (.c (slv s row d m)) := by subst h; exact .refl _
theorem CEq.sll {α : Type} {s : Nat} {row : α → List D} {d : α} {l m : List α} (h : l = m) : CEq (slv s row d l) (slv s row d m) := by subst h; exact .refl _
def CEqs : List C → List C → Prop
  | [], [] => True
  | x :: xs, y :: ys => CEq x y ∧ CEqs xs ys
  | _, _ => False
theorem CEqs.length : ∀ {xs ys : List C}, CEqs xs ys → xs.length = ys.length
  | [], [], _ => rfl
  | x :: xs, y :: ys, h => by simp [CEqs.length h.2]
  | [], _ :: _, h => h.elim
  | _ :: _, [], h => h.elim
theorem CEqs.get : ∀ {xs ys : List C}, CEqs xs ys → ∀ (i : Nat) x y, xs[i]? = some x → ys[i]? = some y → CEq x y
  | [], [], _, i, x, y, h, _ => by simp at h
  | a :: xs, b :: ys, h, i, x, y, hx, hy => by
    cases i with
    | zero => simp at hx hy; subst hx; subst hy; exact h.1
    | succ i => exact CEqs.get h.2 i x y (by simpa using hx) (by simpa using hy)
  | [], _ :: _, h, _, _, _, _, _ => h.elim
  | _ :: _, [], h, _, _, _, _, _ => h.elim
theorem EEq.boxs {xs ys : List C} (h : CEqs xs ys) : EEq (.box xs) (.box ys) := .box xs ys h.length h.get
theorem VEq.aggs {xs ys : List C} (h : CEqs xs ys) : VEq (.agg xs) (.agg ys) := .agg xs ys h.length h.get
theorem EEq.same (x : Ent) : EEq x x := by
  cases x with
  | box xs => exact .box _ _ rfl fun i x y hx hy => by rw [hx] at hy; cases hy; exact .refl _
  | row => exact .row _ _ _ _ _ _ fun _ _ => rfl
  | lp => exact .lp _ _ _ _ _ fun _ => .refl _
  | mp m es => exact .mp m es
theorem EEq.rowl {e : TypeId} {s n m : Nat} {f g : Nat → List D} {fz : Bool} (hn : n = m) (h : ∀ i, i < n → f i = g i) : EEq (.row e s n f fz) (.row e s m g fz) := by subst hn; exact .row _ _ _ _ _ _ h
/-- One element more. -/
theorem row_app {α : Type} {row : α → List D} {d : α} {l : List α} {x : α} {r : List D} (h : r = row x) (i : Nat) (hi : i < l.length + 1) : (if i < l.length then row (l.getD i d) else ([r].getD (i - l.length) [])) = row ((l ++ [x]).getD i d) := by
  subst h
  by_cases hlt : i < l.length
  · rw [if_pos hlt, List.getD_eq_getElem?_getD, List.getD_eq_getElem?_getD, List.getElem?_append_left hlt]
  · have : i = l.length := by omega
    subst this
    simp
theorem EEq.app {α : Type} {e : TypeId} {s : Nat} {row : α → List D} {d : α} {l l' : List α} (x : α) {r : List D} (h : r = row x) (hl : l' = l ++ [x]) : EEq (.row e s (l.length + 1) (fun i => if i < l.length then row (l.getD i d) else ([r].getD (i - l.length) [])) false) (rowv e s row d l') := by
  subst hl
  exact EEq.rowl (by simp) fun i hi => row_app h i hi
theorem EEq.one {α : Type} {e : TypeId} {s : Nat} {row : α → List D} {d : α} {l' : List α} (x : α) {r : List D} (h : r = row x) (hl : l' = [x]) : EEq (.row e s 1 (fun i => [r].getD i []) false) (rowv e s row d l') := by
  subst hl
  subst h
  exact EEq.rowl rfl fun i hi => by
    have : i = 0 := by omega
    subst this; rfl
theorem EEq.app1 {e : TypeId} {l l' : List Int} {a : Int} (hl : l' = l ++ [a]) : EEq (.row e 1 (l.length + 1) (fun i => if i < l.length then r1 (l.getD i 0) else ([[dI a]].getD (i - l.length) [])) false) (rowv e 1 r1 0 l') := EEq.app a rfl hl
theorem EEq.app2 {e : TypeId} {l l' : List (Int × Int)} {a b : Int} (hl : l' = l ++ [(a, b)]) : EEq (.row e 2 (l.length + 1) (fun i => if i < l.length then r2 (l.getD i (0, 0)) else ([[dI a, dI b]].getD (i - l.length) [])) false) (rowv e 2 r2 (0, 0) l') := EEq.app (a, b) rfl hl
theorem EEq.app3 {e : TypeId} {l l' : List (Int × Int × Int)} {a b c : Int} (hl : l' = l ++ [(a, b, c)]) : EEq (.row e 3 (l.length + 1) (fun i => if i < l.length then r3 (l.getD i (0, 0, 0)) else ([[dI a, dI b, dI c]].getD (i - l.length) [])) false) (rowv e 3 r3 (0, 0, 0) l') := EEq.app (a, b, c) rfl hl
theorem CEq.li_1 {a0 : Int} : CEq (.d (.sl 1 [[dI a0]].length fun i => [[dI a0]].getD i [])) (ints [a0]) := CEq.sl rfl (fun i hi => by
  rcases i with _ | i
  · rfl
  exact absurd hi (by simp only [List.length_cons, List.length_nil]; omega))
theorem VEq.li_1 {a0 : Int} : VEq (.c (.d (.sl 1 [[dI a0]].length fun i => [[dI a0]].getD i []))) (.c (ints [a0])) := .c _ _ CEq.li_1
theorem CEq.li_2 {a0 a1 : Int} : CEq (.d (.sl 1 [[dI a0], [dI a1]].length fun i => [[dI a0], [dI a1]].getD i [])) (ints [a0, a1]) := CEq.sl rfl (fun i hi => by
  rcases i with _ | i
  · rfl
  rcases i with _ | i
  · rfl
  exact absurd hi (by simp only [List.length_cons, List.length_nil]; omega))
theorem VEq.li_2 {a0 a1 : Int} : VEq (.c (.d (.sl 1 [[dI a0], [dI a1]].length fun i => [[dI a0], [dI a1]].getD i []))) (.c (ints [a0, a1])) := .c _ _ CEq.li_2
theorem CEq.li_3 {a0 a1 a2 : Int} : CEq (.d (.sl 1 [[dI a0], [dI a1], [dI a2]].length fun i => [[dI a0], [dI a1], [dI a2]].getD i [])) (ints [a0, a1, a2]) := CEq.sl rfl (fun i hi => by
  rcases i with _ | i
  · rfl
  rcases i with _ | i
  · rfl
  rcases i with _ | i
  · rfl
  exact absurd hi (by simp only [List.length_cons, List.length_nil]; omega))
theorem VEq.li_3 {a0 a1 a2 : Int} : VEq (.c (.d (.sl 1 [[dI a0], [dI a1], [dI a2]].length fun i => [[dI a0], [dI a1], [dI a2]].getD i []))) (.c (ints [a0, a1, a2])) := .c _ _ CEq.li_3
theorem CEq.li_4 {a0 a1 a2 a3 : Int} : CEq (.d (.sl 1 [[dI a0], [dI a1], [dI a2], [dI a3]].length fun i => [[dI a0], [dI a1], [dI a2], [dI a3]].getD i [])) (ints [a0, a1, a2, a3]) := CEq.sl rfl (fun i hi => by
  rcases i with _ | i
  · rfl
  rcases i with _ | i
  · rfl
  rcases i with _ | i
  · rfl
  rcases i with _ | i
  · rfl
  exact absurd hi (by simp only [List.length_cons, List.length_nil]; omega))
theorem VEq.li_4 {a0 a1 a2 a3 : Int} : VEq (.c (.d (.sl 1 [[dI a0], [dI a1], [dI a2], [dI a3]].length fun i => [[dI a0], [dI a1], [dI a2], [dI a3]].getD i []))) (.c (ints [a0, a1, a2, a3])) := .c _ _ CEq.li_4
theorem CEq.lp_1 {a0 b0 : Int} : CEq (.d (.sl 2 [[dI a0, dI b0]].length fun i => [[dI a0, dI b0]].getD i [])) (prs [(a0, b0)]) := CEq.sl rfl (fun i hi => by
  rcases i with _ | i
  · rfl
  exact absurd hi (by simp only [List.length_cons, List.length_nil]; omega))
theorem VEq.lp_1 {a0 b0 : Int} : VEq (.c (.d (.sl 2 [[dI a0, dI b0]].length fun i => [[dI a0, dI b0]].getD i []))) (.c (prs [(a0, b0)])) := .c _ _ CEq.lp_1
theorem CEq.lp_2 {a0 b0 a1 b1 : Int} : CEq (.d (.sl 2 [[dI a0, dI b0], [dI a1, dI b1]].length fun i => [[dI a0, dI b0], [dI a1, dI b1]].getD i [])) (prs [(a0, b0), (a1, b1)]) := CEq.sl rfl (fun i hi => by
  rcases i with _ | i
  · rfl
  rcases i with _ | i
  · rfl
  exact absurd hi (by simp only [List.length_cons, List.length_nil]; omega))
theorem VEq.lp_2 {a0 b0 a1 b1 : Int} : VEq (.c (.d (.sl 2 [[dI a0, dI b0], [dI a1, dI b1]].length fun i => [[dI a0, dI b0], [dI a1, dI b1]].getD i []))) (.c (prs [(a0, b0), (a1, b1)])) := .c _ _ CEq.lp_2
theorem CEq.lp_3 {a0 b0 a1 b1 a2 b2 : Int} : CEq (.d (.sl 2 [[dI a0, dI b0], [dI a1, dI b1], [dI a2, dI b2]].length fun i => [[dI a0, dI b0], [dI a1, dI b1], [dI a2, dI b2]].getD i [])) (prs [(a0, b0), (a1, b1), (a2, b2)]) := CEq.sl rfl (fun i hi => by
  rcases i with _ | i
  · rfl
  rcases i with _ | i
  · rfl
  rcases i with _ | i
  · rfl
  exact absurd hi (by simp only [List.length_cons, List.length_nil]; omega))
theorem VEq.lp_3 {a0 b0 a1 b1 a2 b2 : Int} : VEq (.c (.d (.sl 2 [[dI a0, dI b0], [dI a1, dI b1], [dI a2, dI b2]].length fun i => [[dI a0, dI b0], [dI a1, dI b1], [dI a2, dI b2]].getD i []))) (.c (prs [(a0, b0), (a1, b1), (a2, b2)])) := .c _ _ CEq.lp_3
theorem CEq.lp_4 {a0 b0 a1 b1 a2 b2 a3 b3 : Int} : CEq (.d (.sl 2 [[dI a0, dI b0], [dI a1, dI b1], [dI a2, dI b2], [dI a3, dI b3]].length fun i => [[dI a0, dI b0], [dI a1, dI b1], [dI a2, dI b2], [dI a3, dI b3]].getD i [])) (prs [(a0, b0), (a1, b1), (a2, b2), (a3, b3)]) := CEq.sl rfl (fun i hi => by
  rcases i with _ | i
  · rfl
  rcases i with _ | i
  · rfl
  rcases i with _ | i
  · rfl
  rcases i with _ | i
  · rfl
  exact absurd hi (by simp only [List.length_cons, List.length_nil]; omega))
theorem VEq.lp_4 {a0 b0 a1 b1 a2 b2 a3 b3 : Int} : VEq (.c (.d (.sl 2 [[dI a0, dI b0], [dI a1, dI b1], [dI a2, dI b2], [dI a3, dI b3]].length fun i => [[dI a0, dI b0], [dI a1, dI b1], [dI a2, dI b2], [dI a3, dI b3]].getD i []))) (.c (prs [(a0, b0), (a1, b1), (a2, b2), (a3, b3)])) := .c _ _ CEq.lp_4
theorem CEq.lt_1 {a0 b0 c0 : Int} : CEq (.d (.sl 3 [[dI a0, dI b0, dI c0]].length fun i => [[dI a0, dI b0, dI c0]].getD i [])) (trs [(a0, b0, c0)]) := CEq.sl rfl (fun i hi => by
  rcases i with _ | i
  · rfl
  exact absurd hi (by simp only [List.length_cons, List.length_nil]; omega))
theorem VEq.lt_1 {a0 b0 c0 : Int} : VEq (.c (.d (.sl 3 [[dI a0, dI b0, dI c0]].length fun i => [[dI a0, dI b0, dI c0]].getD i []))) (.c (trs [(a0, b0, c0)])) := .c _ _ CEq.lt_1
theorem CEq.lt_2 {a0 b0 c0 a1 b1 c1 : Int} : CEq (.d (.sl 3 [[dI a0, dI b0, dI c0], [dI a1, dI b1, dI c1]].length fun i => [[dI a0, dI b0, dI c0], [dI a1, dI b1, dI c1]].getD i [])) (trs [(a0, b0, c0), (a1, b1, c1)]) := CEq.sl rfl (fun i hi => by
  rcases i with _ | i
  · rfl
  rcases i with _ | i
  · rfl
  exact absurd hi (by simp only [List.length_cons, List.length_nil]; omega))
theorem VEq.lt_2 {a0 b0 c0 a1 b1 c1 : Int} : VEq (.c (.d (.sl 3 [[dI a0, dI b0, dI c0], [dI a1, dI b1, dI c1]].length fun i => [[dI a0, dI b0, dI c0], [dI a1, dI b1, dI c1]].getD i []))) (.c (trs [(a0, b0, c0), (a1, b1, c1)])) := .c _ _ CEq.lt_2
theorem CEq.lt_3 {a0 b0 c0 a1 b1 c1 a2 b2 c2 : Int} : CEq (.d (.sl 3 [[dI a0, dI b0, dI c0], [dI a1, dI b1, dI c1], [dI a2, dI b2, dI c2]].length fun i => [[dI a0, dI b0, dI c0], [dI a1, dI b1, dI c1], [dI a2, dI b2, dI c2]].getD i [])) (trs [(a0, b0, c0), (a1, b1, c1), (a2, b2, c2)]) := CEq.sl rfl (fun i hi => by
  rcases i with _ | i
  · rfl
  rcases i with _ | i
  · rfl
  rcases i with _ | i
  · rfl
  exact absurd hi (by simp only [List.length_cons, List.length_nil]; omega))
theorem VEq.lt_3 {a0 b0 c0 a1 b1 c1 a2 b2 c2 : Int} : VEq (.c (.d (.sl 3 [[dI a0, dI b0, dI c0], [dI a1, dI b1, dI c1], [dI a2, dI b2, dI c2]].length fun i => [[dI a0, dI b0, dI c0], [dI a1, dI b1, dI c1], [dI a2, dI b2, dI c2]].getD i []))) (.c (trs [(a0, b0, c0), (a1, b1, c1), (a2, b2, c2)])) := .c _ _ CEq.lt_3
section
variable {P : Program} {N base : Nat}
/-- These slots alone. -/
def keepK : List Nat → List (Nat × V) → (List (Nat × V) → Prop) → Prop
  | [], _, k => k []
  | t :: ts, env, k => frV (lk env t) fun v => keepK ts env fun e => k ((t, v) :: e)
def keepE (env : List (Nat × V)) : List Nat → List (Nat × V)
  | [] => []
  | t :: ts => (t, lk env t) :: keepE env ts
theorem keepK_eq : ∀ (ts : List Nat) (env : List (Nat × V)) (k : List (Nat × V) → Prop), keepK ts env k = k (keepE env ts)
  | [], env, k => rfl
  | t :: ts, env, k => by simp only [keepK, frV_eq, keepK_eq ts, keepE]
theorem lk_keepE {env : List (Nat × V)} {t : Nat} : ∀ (ts : List Nat), RI (lk env t) (lk (keepE env ts) t)
  | [] => fun _ _ _ _ => .unk _
  | x :: ts => by
    rw [keepE, lk_cons]
    split
    · rename_i h; subst h; exact RI.refl _
    · exact lk_keepE ts
theorem Mv.keep {env : List (Nat × V)} {σ : Store} {nx : Nat} (ts : List Nat) : Mv base ⟨env, σ, nx⟩ ⟨keepE env ts, σ, nx⟩ := Mv.env fun t => lk_keepE ts
theorem Sat.keep {x : LCode} {env : List (Nat × V)} {σ : Store} {nx : Nat} {Q : Exit → St → Prop} (ts : List Nat) (h : keepK ts env fun env' => SatL P N base x ⟨env', σ, nx⟩ Q) : SatL P N base x ⟨env, σ, nx⟩ Q := by
  rw [keepK_eq] at h
  exact ⟨Sat.from (Mv.keep ts) h.h⟩
theorem RetQ.of {nx : Nat} {rl : List RL} {vs vs0 : List V} {σ' : Store} {nx' : Nat} {e : Exit} {env : List (Nat × V)} {σ : Store} {nx1 : Nat} (he : e = .normal ∨ e = .ret) (hres : resAll env σ rl = some vs0) (hl : Nat.beq vs0.length vs.length = true) (h : Mv nx ⟨argEnv 0 vs0, σ, nx1⟩ ⟨argEnv 0 vs, σ', nx'⟩) : RetQ nx rl vs σ' nx' e ⟨env, σ, nx1⟩ :=
  ⟨he, vs0, hres, Nat.eq_of_beq_eq_true hl, h⟩
theorem Mv.plain {nx nx1 nx' : Nat} {env : List (Nat × V)} {σ : Store} {vs : List V} (hle : Nat.ble nx nx' = true) (h : envIs env (argEnv 0 vs)) : Mv nx ⟨env, σ, nx1⟩ ⟨argEnv 0 vs, [], nx'⟩ :=
  Mv.weaken (Wk.plain (Nat.le_of_ble_eq_true hle) h)
/-- At a call: the row of slot t is closed. -/
theorem OpsL.frz {ops : List LIns} {K : St → Prop} {env : List (Nat × V)} {σ : Store} {nx : Nat} (t id : Nat) {n : Nat} {e : TypeId} {s m : Nat} {f : Nat → List D} {fz : Bool} (h : lk env t = .c (.ms id n)) (hg : get σ id = some (.row e s m f fz)) (hn : n ≤ m)
    (k : frS (set σ id (.row e s m f true)) fun σ' => OpsL P N base ops ⟨(t, .c (.d (.sl s n f))) :: env, σ', nx⟩ K) : OpsL P N base ops ⟨env, σ, nx⟩ K := by
  rw [frS_eq] at k
  exact ⟨Ops.from (Mv.freeze t id h hg hn) k.h⟩
/-- At the end of a loop: the row of slot t is closed. -/
theorem MvQ.frz {Q : Exit → St → Prop} {x : Exit} {env : List (Nat × V)} {σ : Store} {nx : Nat} (t id : Nat) {n : Nat} {e : TypeId} {s m : Nat} {f : Nat → List D} {fz : Bool} (h : lk env t = .c (.ms id n)) (hg : get σ id = some (.row e s m f fz)) (hn : n ≤ m)
    (k : frS (set σ id (.row e s m f true)) fun σ' => MvQ base Q x ⟨(t, .c (.d (.sl s n f))) :: env, σ', nx⟩) : MvQ base Q x ⟨env, σ, nx⟩ := by
  rw [frS_eq] at k
  exact MvQ.from (Mv.freeze t id h hg hn) k
/-- A nil slice in a slot gets a name. -/
theorem Sat.nilS {x : LCode} {env : List (Nat × V)} {σ : Store} {nx : Nat} {Q : Exit → St → Prop} (t : Nat) (e : TypeId) (s : Nat) (f : Nat → List D) (h : lk env t = .c (.d (.v (.slice none 0 0))))
    (k : frNat (nx + 1) fun nx' => SatL P N base x ⟨(t, .c (.ms nx 0)) :: env, (nx, .row e s 0 f false) :: σ, nx'⟩ Q) : SatL P N base x ⟨env, σ, nx⟩ Q := by
  rw [frNat_eq] at k
  exact ⟨Sat.from (Mv.nilms t e s f h) k.h⟩
end
end Go.Pw

set_option linter.unusedVariables false
set_option linter.unusedSectionVars false
namespace Go.Pw
open Go Go.RowKit Go.ChangeShapes Go.WideShapes
inductive Sh
  | int (k : IntKind)
  | bool
  | str
  | sl (row : List Sh)
/-- Shapes of a struct's fields, laid one behind the other. -/
def shFields (cells : TypeId → Nat) (sh : TypeId → Option (List Sh)) : Nat → List Field → Option (List Sh)
  | _, [] => some []
  | o, f :: fs => if f.offset = o then (sh f.type).bind fun a => if a.length = cells f.type then (shFields cells sh (o + cells f.type) fs).map fun b => a ++ b else none else none
/-- The shape of a type's cells. -/
def shOf (P : Program) : Nat → TypeId → Option (List Sh)
  | 0, _ => none
  | m + 1, t => match P.underlying t with
    | some (.int k) => some [.int k]
    | some .bool => some [.bool]
    | some .string => some [.str]
    | some (.struct fs) => (shFields P.cellsOf (shOf P m) 0 fs.toList).bind fun l => if l.length = P.cellsOf t then some l else none
    | some (.array n e) => (shOf P m e).bind fun a => if a.length = P.cellsOf e ∧ n * P.cellsOf e = P.cellsOf t then some (List.replicate n a).flatten else none
    | some (.slice e) => (shOf P m e).bind fun a => if a.length = P.cellsOf e ∧ a.length ≠ 0 then some [.sl a] else none
    | _ => none
mutual
def OkD : Sh → D → Prop
  | .int k, d => ∃ n, d = .v (.int k n) ∧ k.has n = true
  | .bool, d => ∃ b, d = .v (.bool b)
  | .str, d => ∃ s : ByteArray, d = .v (.string s) ∧ s.size ≤ maxLen
  | .sl row, d => ∃ n f, d = .sl row.length n f ∧ n ≤ maxLen ∧ ∀ i, i < n → OkDs row (f i)
def OkDs : List Sh → List D → Prop
  | [], [] => True
  | s :: ss, d :: ds => OkD s d ∧ OkDs ss ds
  | _, _ => False
end
theorem OkDs.length : ∀ {ss : List Sh} {ds : List D}, OkDs ss ds → ds.length = ss.length
  | [], [], _ => rfl
  | s :: ss, d :: ds, h => by unfold OkDs at h; simp [OkDs.length h.2]
  | [], _ :: _, h => by unfold OkDs at h; exact h.elim
  | _ :: _, [], h => by unfold OkDs at h; exact h.elim
theorem OkDs.app : ∀ {ss tt : List Sh} {ds es : List D}, OkDs ss ds → OkDs tt es → OkDs (ss ++ tt) (ds ++ es)
  | [], _, [], _, _, h => h
  | s :: ss, tt, d :: ds, es, h, h' => by
    unfold OkDs at h
    show OkDs (s :: (ss ++ tt)) (d :: (ds ++ es))
    unfold OkDs
    exact ⟨h.1, OkDs.app h.2 h'⟩
  | [], _, _ :: _, _, h, _ => by unfold OkDs at h; exact h.elim
  | _ :: _, _, [], _, h, _ => by unfold OkDs at h; exact h.elim
/-- Cells that stand for data. -/
def Reps (I : Nat → Prop) (w : World) (ds : List D) (cs : List Value) : Prop := cs.length = ds.length ∧ ∀ (i : Nat) d u, ds[i]? = some d → cs[i]? = some u → RepD I w d u
theorem Reps.nil {I : Nat → Prop} {w : World} : Reps I w [] [] := ⟨rfl, fun i d u h => by simp at h⟩
theorem Reps.one {I : Nat → Prop} {w : World} {d : D} {u : Value} (h : RepD I w d u) : Reps I w [d] [u] := ⟨rfl, fun i d' u' hd hu => by
  cases i with
  | zero => simp at hd hu; subst hd; subst hu; exact h
  | succ i => simp at hd⟩
theorem Reps.app {I : Nat → Prop} {w : World} {ds es : List D} {cs us : List Value} (h : Reps I w ds cs) (h' : Reps I w es us) : Reps I w (ds ++ es) (cs ++ us) := by
  refine ⟨by simp [h.1, h'.1], fun i d u hd hu => ?_⟩
  rcases Nat.lt_or_ge i ds.length with hi | hi
  · rw [List.getElem?_append_left hi] at hd
    rw [List.getElem?_append_left (by rw [h.1]; exact hi)] at hu
    exact h.2 i d u hd hu
  · rw [List.getElem?_append_right hi] at hd
    rw [List.getElem?_append_right (by rw [h.1]; exact hi), h.1] at hu
    exact h'.2 _ d u hd hu
section
variable {H : Type} {enc : TypeId × Value → H} {P : Program} {w : World} {base : Nat} {spare : Nat → Bool} {held : Bool}
theorem trod_array' {t e : TypeId} {n fuel : Nat} {cs : List Value} {x : DataW H × List MemPlace} (ht : P.underlying t = some (.array n e)) (h : DataW.trod enc P w base spare held fuel t cs = some x) :
    ∃ m, cs.length = P.cellsOf t ∧ ∀ i, i < n → ∃ y, DataW.trod enc P w base spare held m e ((cs.drop (i * P.cellsOf e)).take (P.cellsOf e)) = some y := by
  cases fuel with
  | zero => simp [DataW.trod] at h
  | succ m =>
    unfold DataW.trod at h
    rw [ht] at h
    simp only at h
    split at h
    · rename_i hl
      rw [Option.map_eq_some_iff] at h
      obtain ⟨xs, h1, _⟩ := h
      refine ⟨m, hl, fun i hi => ?_⟩
      have := mapM_some_get h1 i i (by simp [hi])
      have hlen := mapM_some_length h1
      rw [List.getElem?_eq_getElem (by rw [hlen]; simpa using hi)] at this
      exact ⟨_, this⟩
    · cases h
theorem trod_fields {m : Nat} (ih : ∀ (t : TypeId) (sh : List Sh) (fuel : Nat) (cs : List Value) (x : DataW H × List MemPlace), shOf P m t = some sh → DataW.trod enc P w base spare held fuel t cs = some x → ∃ ds, OkDs sh ds ∧ Reps (fun b => b < w.heap.size) w ds cs) {fuel : Nat} :
    ∀ (fs : List Field) (o : Nat) (sh : List Sh) (cs : List Value), shFields P.cellsOf (shOf P m) o fs = some sh → (∀ f ∈ fs, ∃ y, DataW.trod enc P w base spare held fuel f.type ((cs.drop f.offset).take (P.cellsOf f.type)) = some y) →
      o + sh.length = cs.length → ∃ ds, OkDs sh ds ∧ Reps (fun b => b < w.heap.size) w ds (cs.drop o)
  | [], o, sh, cs, h, _, hl => by
    simp only [shFields, Option.some.injEq] at h
    subst h
    refine ⟨[], by unfold OkDs; trivial, ?_⟩
    rw [List.drop_of_length_le (by simp at hl; omega)]
    exact Reps.nil
  | f :: fs, o, sh, cs, h, hf, hl => by
    simp only [shFields] at h
    split at h
    · rename_i ho
      rw [Option.bind_eq_some_iff] at h
      obtain ⟨a, ha, h⟩ := h
      split at h
      · rename_i hal
        rw [Option.map_eq_some_iff] at h
        obtain ⟨b, hb, rfl⟩ := h
        obtain ⟨y, hy⟩ := hf f (by simp)
        rw [ho] at hy
        obtain ⟨ds, h1, h2⟩ := ih f.type a fuel _ y ha hy
        rw [List.length_append] at hl
        obtain ⟨es, h3, h4⟩ := trod_fields ih fs (o + P.cellsOf f.type) b cs hb (fun g hg => hf g (by simp [hg])) (by omega)
        refine ⟨ds ++ es, h1.app h3, ?_⟩
        have := h2.app h4
        rwa [← List.drop_drop, List.take_append_drop] at this
      · cases h
    · cases h
theorem reps_array {I : Nat → Prop} {c : Nat} {sh : List Sh} : ∀ (n : Nat) (cs : List Value), cs.length = n * c → (∀ i, i < n → ∃ ds, OkDs sh ds ∧ Reps I w ds ((cs.drop (i * c)).take c)) → ∃ ds, OkDs (List.replicate n sh).flatten ds ∧ Reps I w ds cs
  | 0, cs, hl, _ => by
    have : cs = [] := List.length_eq_zero_iff.1 (by simpa using hl)
    subst this
    exact ⟨[], by simp only [List.replicate, List.flatten]; unfold OkDs; trivial, Reps.nil⟩
  | n + 1, cs, hl, h => by
    obtain ⟨ds, h1, h2⟩ := h 0 (Nat.succ_pos _)
    obtain ⟨es, h3, h4⟩ := reps_array (c := c) (sh := sh) n (cs.drop c) (by rw [List.length_drop, hl, Nat.succ_mul]; omega) (fun i hi => by
      obtain ⟨es, h3, h4⟩ := h (i + 1) (by omega)
      refine ⟨es, h3, ?_⟩
      rwa [List.drop_drop, show c + i * c = (i + 1) * c by rw [Nat.succ_mul]; omega])
    refine ⟨ds ++ es, ?_, ?_⟩
    · rw [List.replicate_succ, List.flatten_cons]; exact h1.app h3
    · simp only [Nat.zero_mul, List.drop_zero] at h2
      have := h2.app h4
      rwa [List.take_append_drop] at this
theorem has_of_wf {k : IntKind} {n : Int} (h : (Lit.int k n).wf = true) : k.has n = true := by
  simpa [Lit.wf, IntKind.has] using h
theorem trod_reps : ∀ (m : Nat) (t : TypeId) (sh : List Sh) (fuel : Nat) (cs : List Value) (x : DataW H × List MemPlace), shOf P m t = some sh → DataW.trod enc P w base spare held fuel t cs = some x →
    ∃ ds, OkDs sh ds ∧ Reps (fun b => b < w.heap.size) w ds cs := by
  intro m
  induction m with
  | zero => intro t sh fuel cs x h; simp [shOf] at h
  | succ m ih =>
    intro t sh fuel cs x h hx
    unfold shOf at h
    split at h
    · rename_i k hu
      cases h
      obtain ⟨n, rfl, _, hw⟩ := DataW.trod_int hu hx
      exact ⟨[.v (.int k n)], by unfold OkDs; exact ⟨by unfold OkD; exact ⟨n, rfl, has_of_wf hw⟩, by unfold OkDs; trivial⟩, Reps.one (.v _ rfl)⟩
    · rename_i hu
      cases h
      obtain ⟨b, rfl, _⟩ := DataW.trod_bool hu hx
      exact ⟨[.v (.bool b)], by unfold OkDs; exact ⟨by unfold OkD; exact ⟨b, rfl⟩, by unfold OkDs; trivial⟩, Reps.one (.v _ rfl)⟩
    · rename_i hu
      cases h
      obtain ⟨s, rfl, _, hs⟩ := DataW.trod_string hu hx
      exact ⟨[.v (.string s)], by unfold OkDs; exact ⟨by unfold OkD; exact ⟨s, rfl, hs⟩, by unfold OkDs; trivial⟩, Reps.one (.v _ rfl)⟩
    · rename_i fs hu
      rw [Option.bind_eq_some_iff] at h
      obtain ⟨l, hl, h⟩ := h
      split at h
      · rename_i hc
        cases h
        obtain ⟨xs, n, rfl, _, hlen, hxl, hfs⟩ := DataW.trod_struct hu hx
        obtain ⟨ds, h1, h2⟩ := trod_fields (fuel := n) ih fs.toList 0 sh cs hl (fun f hf => by
          obtain ⟨i, hi, rfl⟩ := List.getElem_of_mem hf
          have h3 := hfs i fs.toList[i] (by simp)
          rw [List.getElem?_eq_getElem (by rw [hxl]; simpa using hi)] at h3
          exact ⟨_, h3⟩) (by omega)
        exact ⟨ds, h1, by simpa using h2⟩
      · cases h
    · rename_i n e hu
      rw [Option.bind_eq_some_iff] at h
      obtain ⟨a, ha, h⟩ := h
      split at h
      · rename_i hc
        cases h
        obtain ⟨m', hlen, hy⟩ := trod_array' hu hx
        exact reps_array n cs (by rw [hlen, hc.2]) (fun i hi => by
          obtain ⟨y, hy⟩ := hy i hi
          exact ih e a m' _ y ha hy)
      · cases h
    · rename_i e hu
      rw [Option.bind_eq_some_iff] at h
      obtain ⟨a, ha, h⟩ := h
      split at h
      · rename_i hca
        obtain ⟨hc, hca⟩ := hca
        cases h
        rcases Deep.open_slice hu hx with ⟨rfl, _⟩ | ⟨ad, len, cap, mm, n, D0, Pl, rfl, _, hlc, hcm, hmm, _, hel⟩
        · exact ⟨[.sl a.length 0 fun _ => []], by unfold OkDs; exact ⟨by unfold OkD; exact ⟨0, _, rfl, Nat.zero_le _, fun i hi => absurd hi (Nat.not_lt_zero _)⟩, by unfold OkDs; trivial⟩, Reps.one (.slE _ _ _ _)⟩
        · have hle : len ≤ mm := by rw [hmm]; split <;> omega
          have hall : ∀ i, i < len → ∃ p : List D × List Value, OkDs a p.1 ∧ Reps (fun b => b < w.heap.size) w p.1 p.2 ∧ w.cells? base (ad.add (i * P.cellsOf e)) (P.cellsOf e) = some p.2 := fun i hi => by
            obtain ⟨cs', h1, h2⟩ := hel i (by omega)
            obtain ⟨ds, h3, h4⟩ := ih e a n cs' _ ha h2
            exact ⟨(ds, cs'), h3, h4, h1⟩
          obtain ⟨f, hf⟩ := Deep.choose_lt hall
          refine ⟨[.sl a.length len fun i => (f i).1], by unfold OkDs; exact ⟨by unfold OkD; exact ⟨len, _, rfl, by omega, fun i hi => (hf i hi).1⟩, by unfold OkDs; trivial⟩, Reps.one ?_⟩
          by_cases h0 : len = 0
          · subst h0; exact .slE _ _ _ _
          refine .sl _ _ _ _ _ (fun i j => ((f i).2[j]?).getD (.bool false)) hlc ?_ (fun i hi => (hf i hi).1.length) (fun i j d hi hd => ?_) (fun i j d hi hd => ?_)
          · obtain ⟨_, h2, h3⟩ := hf 0 (by omega)
            have := World.cells?_block h3 (by omega)
            unfold Addr.add at this
            simpa using this
          · obtain ⟨h1, h2, h3⟩ := hf i hi
            obtain ⟨_, h4, h5⟩ := World.cells?_some h3
            have hj : j < (f i).1.length := (List.getElem?_eq_some_iff.1 hd).1
            rw [h2.1.symm, h4] at hj
            have h6 := h5 j hj
            rw [List.getElem?_eq_getElem (by omega)] at h6
            rw [Deep.add_add] at h6
            rw [hc, h6, List.getElem?_eq_getElem (by omega)]
            rfl
          · obtain ⟨h1, h2, h3⟩ := hf i hi
            have hj : j < (f i).1.length := (List.getElem?_eq_some_iff.1 hd).1
            rw [← h2.1] at hj
            rw [List.getElem?_eq_getElem hj]
            exact h2.2 j d _ hd (List.getElem?_eq_getElem hj)
      · cases h
    · cases h
/-- Arguments of given shapes: whether it is a struct or an array, and its cells. -/
def shAll (P : Program) : List TypeId → Option (List (Bool × List Sh))
  | [] => some []
  | t :: ts => (shOf P 20 t).bind fun s => if P.readableRec t = true ∧ t < P.types.size then (shAll P ts).map fun r => ((match P.underlying t with | some (.struct _) | some (.array _ _) => true | _ => false), s) :: r else none
def ArgOk : List (Bool × List Sh) → List V → Prop
  | [], [] => True
  | (b, sh) :: r, v :: vs => (∃ ds, OkDs sh ds ∧ (b = true ∧ v = .agg (ds.map .d) ∨ b = false ∧ ∃ d, ds = [d] ∧ v = .c (.d d))) ∧ ArgOk r vs
  | _, _ => False
theorem okWide_agg {t : TypeId} {v : Value} (h : Value.okWide P w .any base t v) (hb : (match P.underlying t with | some (.struct _) | some (.array _ _) => true | _ => false) = true) : ∃ cs, v = .agg cs := by
  unfold Value.okWide at h
  split at hb
  · rename_i fs hu; rw [hu] at h; exact ⟨_, h.choose_spec.1⟩
  · rename_i n e hu; rw [hu] at h; exact ⟨_, h.choose_spec.1⟩
  · cases hb
theorem below_all (hl : laidOutB P = true) {W W' : World} (hb : Below W.heap.size W W') : ∀ {ts : List TypeId} {vs : List Value} {ds : List (DataW H)} {p : List MemPlace} {shs : List (Bool × List Sh)}, shAll P ts = some shs →
    DataW.TrodAll enc P W 0 (fun _ => true) true ts vs ds p → DataW.TrodAll enc P W' 0 (fun b => decide (b < W.heap.size)) true ts vs ds p
  | [], _, _, _, _, _, h => by
    obtain ⟨rfl, rfl, rfl⟩ := trodAll_nil h
    exact trodAll_mk0
  | t :: ts, _, _, _, _, hs, h => by
    have hlt := h.lt
    obtain ⟨v, vs1, d, ds1, a, b, rfl, rfl, rfl, h1, h2⟩ := trodAll_cons h
    simp only [shAll, Option.bind_eq_some_iff] at hs
    obtain ⟨s, _, hs⟩ := hs
    split at hs
    · rename_i hr
      rw [Option.map_eq_some_iff] at hs
      obtain ⟨r, hr', _⟩ := hs
      exact ⟨a, b, Below.trod hl hr.1 hr.2 h1 hb (fun x hx => hlt x (by simp [hx])), below_all hl hb hr' h2, rfl⟩
    · cases hs
theorem args_rep {Γ : Cx} (hΓ : Γ.I = fun b => b < w.heap.size) : ∀ {ts : List TypeId} {vs : List Value} {ds : List (DataW H)} {p : List MemPlace} {shs : List (Bool × List Sh)}, shAll P ts = some shs →
    DataW.TrodAll enc P w 0 (fun _ => true) true ts vs ds p → (∀ (j : Nat) t v, ts[j]? = some t → vs[j]? = some v → Value.okWide P w .any base t v) →
    ∃ args : List V, ArgOk shs args ∧ vs.length = args.length ∧ ∀ (i : Nat) v u, args[i]? = some v → vs[i]? = some u → RepV Γ w v u
  | [], _, _, _, _, hs, h, _ => by
    obtain ⟨rfl, rfl, rfl⟩ := trodAll_nil h
    simp only [shAll, Option.some.injEq] at hs
    subst hs
    exact ⟨[], trivial, rfl, fun i v u h => by simp at h⟩
  | t :: ts, _, _, _, _, hs, h, hv => by
    obtain ⟨v, vs1, d, ds1, a, b, rfl, rfl, rfl, h1, h2⟩ := trodAll_cons h
    simp only [shAll, Option.bind_eq_some_iff] at hs
    obtain ⟨s, hs1, hs⟩ := hs
    split at hs
    · rename_i hr
      rw [Option.map_eq_some_iff] at hs
      obtain ⟨r, hr', rfl⟩ := hs
      obtain ⟨args, q1, q2, q3⟩ := args_rep hΓ hr' h2 (fun j t' v' hj hj' => hv (j + 1) t' v' (by simpa using hj) (by simpa using hj'))
      obtain ⟨fuel, hx⟩ := h1
      obtain ⟨es, e1, e2⟩ := trod_reps 20 t s fuel _ _ hs1 hx
      have hok := hv 0 t v rfl rfl
      have hcons : ∀ x : V, RepV Γ w x v → ∀ (i : Nat) (y : V) (u : Value), (x :: args)[i]? = some y → (v :: vs1)[i]? = some u → RepV Γ w y u := fun x hx i y u hy hu => by
        cases i with
        | zero => simp at hy hu; subst hy; subst hu; exact hx
        | succ i => exact q3 i y u (by simpa using hy) (by simpa using hu)
      cases hb : (match P.underlying t with | some (.struct _) | some (.array _ _) => true | _ => false) with
      | true =>
        obtain ⟨cs, rfl⟩ := okWide_agg hok hb
        refine ⟨.agg (es.map .d) :: args, ⟨⟨es, e1, .inl ⟨rfl, rfl⟩⟩, q1⟩, by simp [q2], hcons _ ?_⟩
        have e3 : cs.toList.length = es.length := e2.1
        refine .agg _ _ (by simpa using e3) (fun i c u hc hu => ?_)
        simp only [List.getElem?_map, Option.map_eq_some_iff] at hc
        obtain ⟨dd, hd, rfl⟩ := hc
        show RepD Γ.I w dd u
        rw [hΓ]
        exact e2.2 i dd u hd (by show cs.toList[i]? = some u; simpa using hu)
      | false =>
        have hone : v.cells.toList = [v] ∨ ∃ cs, v = .agg cs := by
          cases v <;> first | exact .inl rfl | exact .inr ⟨_, rfl⟩
        have hcell : Cell.okWide P w .any base t v := by
          unfold Value.okWide at hok
          split at hok
          · rename_i hu; rw [hu] at hb; cases hb
          · rename_i hu; rw [hu] at hb; cases hb
          · exact hok
        have hsl : s.length = 1 := by
          unfold shOf at hs1
          split at hs1
          · cases hs1; rfl
          · cases hs1; rfl
          · cases hs1; rfl
          · rename_i hu; rw [hu] at hb; cases hb
          · rename_i hu; rw [hu] at hb; cases hb
          · rw [Option.bind_eq_some_iff] at hs1
            obtain ⟨a, _, hs1⟩ := hs1
            split at hs1
            · cases hs1; rfl
            · cases hs1
          · cases hs1
        obtain ⟨dd, rfl⟩ : ∃ dd, es = [dd] := by
          have := e1.length
          rw [hsl] at this
          exact List.length_eq_one_iff.1 this
        refine ⟨.c (.d dd) :: args, ⟨⟨[dd], e1, .inr ⟨rfl, dd, rfl, rfl⟩⟩, q1⟩, by simp [q2], hcons _ ?_⟩
        have hvc : v.cells.toList = [v] := by
          rcases hone with h | ⟨cs, rfl⟩
          · exact h
          · exfalso
            unfold shOf at hs1
            split at hs1 <;> rename_i hu <;> first | (simp [Cell.okWide, Cell.ok, hu] at hcell; done) | (rw [hu] at hb; cases hb) | cases hs1
        refine .c _ _ ?_
        show RepD Γ.I w dd v
        rw [hΓ]
        exact e2.2 0 dd v rfl (by rw [hvc]; rfl)
    · cases hs
theorem storeOk_nil {Γ : Cx} (h : ∀ k, Γ.I k → k < w.heap.size) (hl : LayOk Γ.I w) : StoreOk Γ w [] :=
  ⟨h, fun id e hg => by simp [get] at hg, fun i j k hi => by
    rcases hi with ⟨_, h⟩ | ⟨_, _, _, _, h, _⟩ | ⟨_, _, _, _, h⟩ | ⟨_, _, h⟩ <;> simp [get] at h, hl⟩
theorem not_live_nil {Γ : Cx} {k : Nat} : ¬ Live Γ [] k := fun ⟨_, hi, _⟩ => by
  rcases hi with ⟨_, h⟩ | ⟨_, _, _, _, h, _⟩ | ⟨_, _, _, _, h⟩ | ⟨_, _, h⟩ <;> simp [get] at h
/-- A law from its contract. -/
theorem law_calls {f : FuncId} {F : Func} {s : ChangeSpec} {shs : List (Bool × List Sh)} {tb : TypeId} (hl : laidOutB P = true) (hs : shAll P F.params.toList = some shs) (hv : s.vars = []) (hfn : ∀ ds : List (DataW H), ds.length = F.params.size → s.fn H ds = { results := [.lit (.bool true)], args := ds })
    (hr : F.resultTypes = #[tb]) (htb : P.underlying tb = some .bool) (hp : ∀ args, ArgOk shs args → PFD P f args (vbl true)) (W : World) (base : Nat) (args : Array Value) (ds gs : List (DataW H)) (before : List MemPlace)
    (hlw : LaidW W) (hval : ∀ (j : Nat) t v, F.params[j]? = some t → args[j]? = some v → Value.okWide P W .any base t v) (hW : DataW.Whole enc P F.params.toList s.vars false W args.toList ds gs before) :
    Calls P f args W fun e W' => ∃ v, e = .returned v ∧ s.post enc P F false true false false W args v W' := by
  have hW' := hW
  obtain ⟨p, q, hA, hV, rfl, hfz, hnd⟩ := hW
  rw [hv] at hV
  obtain ⟨rfl, rfl⟩ := trodVars_none hV
  let Γ : Cx := ⟨fun b => b < W.heap.size, fun _ => none, fun _ => none⟩
  obtain ⟨avs, h1, h2, h3⟩ := args_rep (Γ := Γ) rfl hs hA (fun j t v hj hj' => hval j t v (by simpa using hj) (by simpa using hj'))
  refine ((hp avs h1).h.2.2 Γ W args (storeOk_nil (fun k hk => hk) ⟨W, hlw, fun k hk => ⟨hk, rfl⟩⟩) (fun _ _ _ => rfl) ⟨by simpa using h2, fun i v u hv hu => h3 i v u hv (by simpa using hu)⟩).mono fun e W' hq => ?_
  obtain ⟨u, Γ', rfl, hu, _, _, _, hE⟩ := hq
  have hu : u = .bool true := by
    cases hu with
    | c _ _ h => cases (show RepD Γ'.I W' (.v (.bool true)) u from h); rfl
  subst hu
  have hb : Below W.heap.size W W' := ⟨hE.os, hE.tape, hE.output, hE.size, fun k hk => hE.keep k hk not_live_nil⟩
  have hlen : ds.length = F.params.size := by
    have : ∀ {ts : List TypeId} {vs : List Value} {ds : List (DataW H)} {p : List MemPlace}, DataW.TrodAll enc P W 0 (fun _ => true) true ts vs ds p → ds.length = ts.length := by
      intro ts
      induction ts with
      | nil => intro vs ds p h; obtain ⟨rfl, rfl, rfl⟩ := trodAll_nil h; rfl
      | cons t ts ih =>
        intro vs ds p h
        obtain ⟨v, vs1, d, ds1, a, b, rfl, rfl, rfl, h1, h2⟩ := trodAll_cons h
        simp [ih h2]
    simpa using this hA
  refine ⟨_, rfl, ds, [], p ++ [], [], p, [], hW', ?_, ?_, ?_, World.keptBut_mono (fun x hx => ⟨hx, .inr (.inl (by simpa using hx))⟩) (hb.frame _), fun h => by cases h⟩
  · rw [List.append_nil, hfn ds hlen, hr]
    exact trodAll_mk1 (shut_bool htb true)
  · rw [List.append_nil, hfn ds hlen]
    exact below_all hl hb hs hA
  · rw [List.append_nil, hfn ds hlen, hv]
    exact rfl
end
end Go.Pw

set_option linter.unusedVariables false
namespace Go.Pw
open Go Go.RowKit
theorem PFD.ri {P : Program} {f : FuncId} {args args' : List V} {v : V} (h : PFD P f args' v) (hr : RIs args args') : PFD P f args v :=
  ⟨h.h.1, h.h.2.1, fun Γ w us h1 h2 h3 => h.h.2.2 Γ w us h1 h2 (hr.rep h3)⟩
theorem okDs_cons {s : Sh} {ss : List Sh} {ds : List D} (h : OkDs (s :: ss) ds) : ∃ d es, ds = d :: es ∧ OkD s d ∧ OkDs ss es := by
  cases ds with
  | nil => unfold OkDs at h; exact h.elim
  | cons d es => unfold OkDs at h; exact ⟨d, es, rfl, h.1, h.2⟩
theorem okDs_nil {ds : List D} (h : OkDs [] ds) : ds = [] := by
  cases ds with
  | nil => rfl
  | cons d es => unfold OkDs at h; exact h.elim
theorem okD_int {k : IntKind} {d : D} (h : OkD (.int k) d) : ∃ n, d = .v (.int k n) ∧ k.has n = true := by unfold OkD at h; exact h
theorem okD_sl {row : List Sh} {d : D} (h : OkD (.sl row) d) : ∃ n f, d = .sl row.length n f ∧ n ≤ maxLen ∧ ∀ i, i < n → OkDs row (f i) := by unfold OkD at h; exact h
/-- A slice, as a list of what its rows are. -/
theorem okD_list {row : List Sh} {α : Type} {r : α → List D} {Q : α → Prop} (a0 : α) (hr : ∀ ds, OkDs row ds → ∃ a, ds = r a ∧ Q a) {d : D} (h : OkD (.sl row) d) :
    ∃ l : List α, CEq (.d d) (slv row.length r a0 l) ∧ l.length ≤ maxLen ∧ ∀ a ∈ l, Q a := by
  obtain ⟨n, f, rfl, hn, hf⟩ := okD_sl h
  have : ∀ i, ∃ a, i < n → f i = r a ∧ Q a := fun i => by
    by_cases hi : i < n
    · obtain ⟨a, ha⟩ := hr _ (hf i hi); exact ⟨a, fun _ => ha⟩
    · exact ⟨a0, fun h => absurd h hi⟩
  refine ⟨(List.range n).map fun i => Classical.choose (this i), .sl (by simp) fun i hi => ?_, by simpa using hn, fun a ha => ?_⟩
  · have h1 := (Classical.choose_spec (this i) hi).1
    rw [h1, List.getD_eq_getElem?_getD]
    simp [hi]
  · obtain ⟨i, hi, rfl⟩ := List.mem_map.1 ha
    exact (Classical.choose_spec (this i) (by simpa using hi)).2
abbrev i64 (n : Int) : Prop := IntKind.i64.has n = true
theorem row1 {ds : List D} (h : OkDs [.int .i64] ds) : ∃ a : Int, ds = r1 a ∧ i64 a := by
  obtain ⟨d, es, rfl, h1, h2⟩ := okDs_cons h
  obtain ⟨n, rfl, hn⟩ := okD_int h1
  rw [okDs_nil h2]
  exact ⟨n, rfl, hn⟩
theorem row3 {ds : List D} (h : OkDs [.int .i64, .int .i64, .int .i64] ds) : ∃ a : Int × Int × Int, ds = r3 a ∧ i64 a.1 ∧ i64 a.2.1 ∧ i64 a.2.2 := by
  obtain ⟨d, es, rfl, h1, h2⟩ := okDs_cons h
  obtain ⟨e, fs, rfl, h3, h4⟩ := okDs_cons h2
  obtain ⟨g, gs, rfl, h5, h6⟩ := okDs_cons h4
  obtain ⟨n, rfl, hn⟩ := okD_int h1
  obtain ⟨m, rfl, hm⟩ := okD_int h3
  obtain ⟨o, rfl, ho⟩ := okD_int h5
  rw [okDs_nil h6]
  exact ⟨(n, m, o), rfl, hn, hm, ho⟩
/-- What an argument of a shape is. -/
abbrev Arg (b : Bool) (sh : List Sh) (v : V) : Prop := ∃ ds, OkDs sh ds ∧ (b = true ∧ v = .agg (ds.map .d) ∨ b = false ∧ ∃ d, ds = [d] ∧ v = .c (.d d))
theorem arg_c {s : Sh} {v : V} (h : Arg false [s] v) : ∃ d, v = .c (.d d) ∧ OkD s d := by
  obtain ⟨ds, h1, ⟨h2, _⟩ | ⟨_, d, rfl, rfl⟩⟩ := h
  · cases h2
  · obtain ⟨d', es, h3, h4, h5⟩ := okDs_cons h1
    cases h3
    exact ⟨d, rfl, h4⟩
theorem arg_ints {v : V} (h : Arg false [.sl [.int .i64]] v) : ∃ l : List Int, RI v (.c (ints l)) ∧ l.length ≤ maxLen ∧ ∀ a ∈ l, i64 a := by
  obtain ⟨d, rfl, h1⟩ := arg_c h
  obtain ⟨l, h2, h3⟩ := okD_list (0 : Int) (fun ds => row1) h1
  exact ⟨l, VEq.ri (.c _ _ h2), h3⟩
theorem arg_int {v : V} (h : Arg false [.int .i64] v) : ∃ n : Int, v = vi .i64 n ∧ i64 n := by
  obtain ⟨d, rfl, h1⟩ := arg_c h
  obtain ⟨n, rfl, h2⟩ := okD_int h1
  exact ⟨n, rfl, h2⟩
end Go.Pw

namespace Go.Pw
theorem Fork.yes {b : Bool} {p q : Prop} (hb : b = true) (hp : p) : Fork b p q := ⟨fun _ => hp, fun h => absurd (hb.symm.trans h) (by decide)⟩
theorem Fork.no {b : Bool} {p q : Prop} (hb : b = false) (hq : q) : Fork b p q := ⟨fun h => absurd (hb.symm.trans h) (by decide), fun _ => hq⟩
theorem nd_t {x : Prop} [Decidable x] (h : ¬ x) : (!decide x) = true := by rw [decide_eq_false h]; rfl
theorem nd_f {x : Prop} [Decidable x] (h : x) : (!decide x) = false := by rw [decide_eq_true h]; rfl
end Go.Pw

set_option linter.unusedVariables false
namespace Go.Pw
open Go Go.RowKit
theorem ob {p : Prop} (h : p := by first | trivial | omega | ((try simp only [R64, E53, true_and, and_true, Int.toNat_natCast, List.length_cons, List.length_nil]); omega)) : p := h
theorem tt1 {b : Bool} (h : b = true := by first | exact rfl | (refine decide_eq_true ?_; omega) | (refine nd_t ?_; omega) | (simp only [decide_true, Bool.and_self, Bool.not_false] <;> fail)) : b = true := h
theorem ff1 {b : Bool} (h : b = false := by first | exact rfl | (refine decide_eq_false ?_; omega) | (refine nd_f ?_; omega) | (simp only [decide_true, Bool.and_self, Bool.not_true] <;> fail)) : b = false := h
theorem Owe.o {p q : Prop} (r : q) (l : p := by exact ob) : Owe p q := ⟨l, r⟩
theorem Owe.same {p q : Prop} (h : Owe p q) : Owe p q := h
theorem fkD {x p q : Prop} [h : Decidable x] (h1 : x → p) (h2 : ¬ x → q) : Fork (decide x) p q := Fork.dec h1 h2
theorem fkN {x p q : Prop} [h : Decidable x] (h1 : ¬ x → p) (h2 : x → q) : Fork (!decide x) p q := Fork.ndec h1 h2
theorem fkM {b : Bool} {p q : Prop} (h1 : b = true → p) (h2 : b = false → q) : Fork b p q := ⟨h1, h2⟩
theorem fkY {b : Bool} {p q : Prop} (hp : p) (hb : b = true := by exact tt1) : Fork b p q := Fork.yes hb hp
theorem fkF {b : Bool} {p q : Prop} (hq : q) (hb : b = false := by exact ff1) : Fork b p q := Fork.no hb hq
inductive QI where
  | v (x y : V)
  | c (x y : C)
  | e (x y : Ent)
  | vs (xs ys : List V)
  | cs (xs ys : List C)
  | en (env e0 : List (Nat × V))
  | eq (π : Nat → Nat) (env e0 : List (Nat × V))
  | st (π : Nat → Nat) (σ σ0 : Store)
def cloCB : C → Bool
  | .d _ | .tru | .fls | .rp _ | .z | .fn _ [] | .fl _ | .cx _ _ | .cl _ _ _ | .fnR _ _ | .fnB _ _ => true
  | _ => false
def cloCsB : List C → Bool
  | [] => true
  | c :: cs => cloCB c && cloCsB cs
def cloB : V → Bool
  | .c x => cloCB x
  | .agg cs => cloCsB cs
  | .unk => true
  | .tup _ => false
theorem cloCB_ok {c : C} (h : cloCB c = true) : cloC c := by
  unfold cloCB at h
  split at h <;> first | trivial | rfl | cases h
theorem cloCsB_ok : ∀ {cs : List C}, cloCsB cs = true → cloCs cs
  | [], _ => trivial
  | c :: cs, h => by
    simp only [cloCsB, Bool.and_eq_true] at h
    exact ⟨cloCB_ok h.1, cloCsB_ok h.2⟩
theorem cloB_ok {v : V} (h : cloB v = true) : clo v := by
  cases v with
  | c x => exact cloCB_ok h
  | agg cs => exact cloCsB_ok h
  | unk => trivial
  | tup => cases h
def QI.so : QI → Prop
  | .v x y => VEq x y
  | .c x y => CEq x y
  | .e x y => EEq x y
  | .vs xs ys => VEqs xs ys
  | .cs xs ys => CEqs xs ys
  | .en env e0 => envIs env e0
  | .eq π env e0 => envEq π env e0
  | .st π σ σ0 => stoEq π σ σ0
/-- One step of agreement. -/
inductive QQ : QI → Prop
  | vsn : QQ (.vs [] [])
  | vsc {x y : V} {xs ys : List V} (h : QI.so (.v x y)) (t : QI.so (.vs xs ys)) : QQ (.vs (x :: xs) (y :: ys))
  | csn : QQ (.cs [] [])
  | csc {x y : C} {xs ys : List C} (h : QI.so (.c x y)) (t : QI.so (.cs xs ys)) : QQ (.cs (x :: xs) (y :: ys))
  | enn {env : List (Nat × V)} : QQ (.en env [])
  | enc {env e0 : List (Nat × V)} {t : Nat} {v : V} (h : QI.so (.v (lk env t) v)) (c : cloB v = true) (r : QI.so (.en env e0)) : QQ (.en env ((t, v) :: e0))
  | eqn {π : Nat → Nat} {env : List (Nat × V)} : QQ (.eq π env [])
  | eqc {π : Nat → Nat} {env e0 : List (Nat × V)} {t : Nat} {v : V} (h : QI.so (.v (lk env t) (rnV π v))) (r : QI.so (.eq π env e0)) : QQ (.eq π env ((t, v) :: e0))
  | stn {π : Nat → Nat} {σ : Store} : QQ (.st π σ [])
  | stc {π : Nat → Nat} {σ σ0 : Store} {id : Nat} {x y : Ent} (g : get σ (π id) = some y) (h : QI.so (.e y (rnE π x))) (r : QI.so (.st π σ σ0)) : QQ (.st π σ ((id, x) :: σ0))
  | vr (x : V) : QQ (.v x x)
  | er (x : Ent) : QQ (.e x x)
  | cr (x : C) : QQ (.c x x)
  | tru {b : Bool} (h : b = true) : QQ (.v (.c .tru) (vbl b))
  | fls {b : Bool} (h : b = false) : QQ (.v (.c .fls) (vbl b))
  | bool {a b : Bool} (h : a = b) : QQ (.v (vbl a) (vbl b))
  | int {k : IntKind} {a b : Int} (h : a = b) : QQ (.v (vi k a) (vi k b))
  | nil {s : Nat} {g : Nat → List D} : QQ (.v (.c (.d (.v (.slice none 0 0)))) (.c (.d (.sl s 0 g))))
  | z {s : Nat} {g : Nat → List D} : QQ (.v (.c .z) (.c (.d (.sl s 0 g))))
  | li1 {a0 : Int} : QQ (.v (.c (.d (.sl 1 [[dI a0]].length fun i => [[dI a0]].getD i []))) (.c (ints [a0])))
  | li2 {a0 a1 : Int} : QQ (.v (.c (.d (.sl 1 [[dI a0], [dI a1]].length fun i => [[dI a0], [dI a1]].getD i []))) (.c (ints [a0, a1])))
  | li3 {a0 a1 a2 : Int} : QQ (.v (.c (.d (.sl 1 [[dI a0], [dI a1], [dI a2]].length fun i => [[dI a0], [dI a1], [dI a2]].getD i []))) (.c (ints [a0, a1, a2])))
  | li4 {a0 a1 a2 a3 : Int} : QQ (.v (.c (.d (.sl 1 [[dI a0], [dI a1], [dI a2], [dI a3]].length fun i => [[dI a0], [dI a1], [dI a2], [dI a3]].getD i []))) (.c (ints [a0, a1, a2, a3])))
  | lp1 {a0 b0 : Int} : QQ (.v (.c (.d (.sl 2 [[dI a0, dI b0]].length fun i => [[dI a0, dI b0]].getD i []))) (.c (prs [(a0, b0)])))
  | lp2 {a0 b0 a1 b1 : Int} : QQ (.v (.c (.d (.sl 2 [[dI a0, dI b0], [dI a1, dI b1]].length fun i => [[dI a0, dI b0], [dI a1, dI b1]].getD i []))) (.c (prs [(a0, b0), (a1, b1)])))
  | lp3 {a0 b0 a1 b1 a2 b2 : Int} : QQ (.v (.c (.d (.sl 2 [[dI a0, dI b0], [dI a1, dI b1], [dI a2, dI b2]].length fun i => [[dI a0, dI b0], [dI a1, dI b1], [dI a2, dI b2]].getD i []))) (.c (prs [(a0, b0), (a1, b1), (a2, b2)])))
  | lp4 {a0 b0 a1 b1 a2 b2 a3 b3 : Int} : QQ (.v (.c (.d (.sl 2 [[dI a0, dI b0], [dI a1, dI b1], [dI a2, dI b2], [dI a3, dI b3]].length fun i => [[dI a0, dI b0], [dI a1, dI b1], [dI a2, dI b2], [dI a3, dI b3]].getD i []))) (.c (prs [(a0, b0), (a1, b1), (a2, b2), (a3, b3)])))
  | lt1 {a0 b0 c0 : Int} : QQ (.v (.c (.d (.sl 3 [[dI a0, dI b0, dI c0]].length fun i => [[dI a0, dI b0, dI c0]].getD i []))) (.c (trs [(a0, b0, c0)])))
  | lt2 {a0 b0 c0 a1 b1 c1 : Int} : QQ (.v (.c (.d (.sl 3 [[dI a0, dI b0, dI c0], [dI a1, dI b1, dI c1]].length fun i => [[dI a0, dI b0, dI c0], [dI a1, dI b1, dI c1]].getD i []))) (.c (trs [(a0, b0, c0), (a1, b1, c1)])))
  | lt3 {a0 b0 c0 a1 b1 c1 a2 b2 c2 : Int} : QQ (.v (.c (.d (.sl 3 [[dI a0, dI b0, dI c0], [dI a1, dI b1, dI c1], [dI a2, dI b2, dI c2]].length fun i => [[dI a0, dI b0, dI c0], [dI a1, dI b1, dI c1], [dI a2, dI b2, dI c2]].getD i []))) (.c (trs [(a0, b0, c0), (a1, b1, c1), (a2, b2, c2)])))
  | ms {id n m : Nat} (h : n = m) : QQ (.v (.c (.ms id n)) (.c (.ms id m)))
  | sll {α : Type} {s : Nat} {row : α → List D} {d : α} {l m : List α} (h : l = m) : QQ (.v (.c (slv s row d l)) (.c (slv s row d m)))
  | aggs {xs ys : List C} (h : QI.so (.cs xs ys)) : QQ (.v (.agg xs) (.agg ys))
  | boxs {xs ys : List C} (h : QI.so (.cs xs ys)) : QQ (.e (.box xs) (.box ys))
  | app1 {e : TypeId} {l l' : List Int} {a : Int} (hl : l' = l ++ [a]) : QQ (.e (.row e 1 (l.length + 1) (fun i => if i < l.length then r1 (l.getD i 0) else ([[dI a]].getD (i - l.length) [])) false) (rowv e 1 r1 0 l'))
  | app2 {e : TypeId} {l l' : List (Int × Int)} {a b : Int} (hl : l' = l ++ [(a, b)]) : QQ (.e (.row e 2 (l.length + 1) (fun i => if i < l.length then r2 (l.getD i (0, 0)) else ([[dI a, dI b]].getD (i - l.length) [])) false) (rowv e 2 r2 (0, 0) l'))
  | app3 {e : TypeId} {l l' : List (Int × Int × Int)} {a b c : Int} (hl : l' = l ++ [(a, b, c)]) : QQ (.e (.row e 3 (l.length + 1) (fun i => if i < l.length then r3 (l.getD i (0, 0, 0)) else ([[dI a, dI b, dI c]].getD (i - l.length) [])) false) (rowv e 3 r3 (0, 0, 0) l'))
  | cms {id n m : Nat} (h : n = m) : QQ (.c (.ms id n) (.ms id m))
  | cint {k : IntKind} {a b : Int} (h : a = b) : QQ (.c (.d (.v (.int k a))) (.d (.v (.int k b))))
  | csll {α : Type} {s : Nat} {row : α → List D} {d : α} {l m : List α} (h : l = m) : QQ (.c (slv s row d l) (slv s row d m))
  | cnil {s : Nat} {g : Nat → List D} : QQ (.c (.d (.v (.slice none 0 0))) (.d (.sl s 0 g)))
  | cz {s : Nat} {g : Nat → List D} : QQ (.c .z (.d (.sl s 0 g)))
  | ctru {b : Bool} (h : b = true) : QQ (.c .tru (.d (.v (.bool b))))
  | cfls {b : Bool} (h : b = false) : QQ (.c .fls (.d (.v (.bool b))))
  | cbool {a b : Bool} (h : a = b) : QQ (.c (.d (.v (.bool a))) (.d (.v (.bool b))))
  | lit {α : Type} {s : Nat} {row : α → List D} {d : α} {l : List α} {rs : List (List D)} (h : rs = l.map row) : QQ (.v (.c (.d (.sl s rs.length fun i => rs.getD i []))) (.c (slv s row d l)))
  | clit {α : Type} {s : Nat} {row : α → List D} {d : α} {l : List α} {rs : List (List D)} (h : rs = l.map row) : QQ (.c (.d (.sl s rs.length fun i => rs.getD i [])) (slv s row d l))
  | fl {a b : Int} (h : a = b) : QQ (.v (.c (.fl a)) (.c (.fl b)))
  | cx {a b c d : Int} (h : a = c) (h2 : b = d) : QQ (.v (.c (.cx a b)) (.c (.cx c d)))
  | mp {m : Nat} {es es' : List (Int × Int)} (h : es = es') : QQ (.e (.mp m es) (.mp m es'))
  | drp {α : Type} {s k : Nat} {row : α → List D} {d : α} {l m : List α} (h : m = l.drop k) : QQ (.v (.c (.d (.sl s (l.length - k) fun i => row (l.getD (k + i) d)))) (.c (slv s row d m)))
  | tak {α : Type} {s k : Nat} {row : α → List D} {d : α} {l m : List α} (h : k ≤ l.length ∧ m = l.take k) : QQ (.v (.c (.d (.sl s k fun i => row (l.getD i d)))) (.c (slv s row d m)))
  | cut {α : Type} {s k j : Nat} {row : α → List D} {d : α} {l m : List α} (h : k ≤ j ∧ j ≤ l.length ∧ m = (l.take j).drop k) : QQ (.v (.c (.d (.sl s (j - k) fun i => row (l.getD (k + i) d)))) (.c (slv s row d m)))
  | dapp {α : Type} {s : Nat} {row : α → List D} {d : α} {l l' : List α} {r : List D} (h : ∃ x, r = row x ∧ l' = l ++ [x]) : QQ (.v (.c (.d (.sl s (l.length + 1) fun i => if i < l.length then row (l.getD i d) else ([r].getD (i - l.length) [])))) (.c (slv s row d l')))
  | appg {α : Type} {e : TypeId} {s : Nat} {row : α → List D} {d : α} {l l' : List α} {r : List D} (h : ∃ x, r = row x ∧ l' = l ++ [x]) : QQ (.e (.row e s (l.length + 1) (fun i => if i < l.length then row (l.getD i d) else ([r].getD (i - l.length) [])) false) (rowv e s row d l'))
  | apps {α : Type} {e : TypeId} {s : Nat} {row : α → List D} {d : α} {l m l' : List α} (h : l' = l ++ m) : QQ (.e (.row e s (l.length + m.length) (fun i => if i < l.length then row (l.getD i d) else row (m.getD (i - l.length) d)) false) (rowv e s row d l'))
  | setg {α : Type} {e : TypeId} {s i j : Nat} {row : α → List D} {d : α} {l l' : List α} {ds : List D} (h : ∃ x, putD (row (l.getD i d)) j ds = row x ∧ l' = l.set i x) : QQ (.e (.row e s l.length (setRw (fun k => row (l.getD k d)) i j ds) false) (rowv e s row d l'))
  | mk {α : Type} {e : TypeId} {s n : Nat} {row : α → List D} {d : α} {l : List α} {r : List D} (h : ∃ x, r = row x ∧ l = List.replicate n x) : QQ (.e (.row e s n (fun _ => r) false) (rowv e s row d l))
  | elit {α : Type} {e : TypeId} {s : Nat} {row : α → List D} {d : α} {l : List α} {rs : List (List D)} (h : rs = l.map row) : QQ (.e (.row e s rs.length (fun i => rs.getD i []) false) (rowv e s row d l))
  | rll {α : Type} {e : TypeId} {s : Nat} {row : α → List D} {d : α} {l m : List α} {b : Bool} (h : l = m) : QQ (.e (.row e s l.length (fun i => row (l.getD i d)) b) (.row e s m.length (fun i => row (m.getD i d)) b))
theorem setRw_eq {α : Type} {e : TypeId} {s : Nat} {row : α → List D} {d : α} {l l' : List α} {i j : Nat} {ds : List D} (x : α) (h : putD (row (l.getD i d)) j ds = row x) (hl : l' = l.set i x) : EEq (.row e s l.length (setRw (fun k => row (l.getD k d)) i j ds) false) (rowv e s row d l') := by
  subst hl
  refine EEq.rowl (by simp) fun k hk => ?_
  unfold Pw.setRw
  rw [List.getD_eq_getElem?_getD (l := l.set i x), List.getElem?_set]
  split
  · rename_i hb
    have hb := Nat.eq_of_beq_eq_true hb
    subst hb
    rw [h, if_pos rfl, if_pos hk]; rfl
  · rename_i hb
    have hb : ¬ i = k := fun h => by subst h; rw [Nat.beq_refl] at hb; cases hb
    rw [if_neg hb]; show row (l.getD k d) = _; rw [List.getD_eq_getElem?_getD]
theorem getD_drop' {α : Type} {d : α} {l : List α} {k i : Nat} : (l.drop k).getD i d = l.getD (k + i) d := by
  simp only [List.getD_eq_getElem?_getD, List.getElem?_drop]
theorem getD_take' {α : Type} {d : α} {l : List α} {k i : Nat} (h : i < k) : (l.take k).getD i d = l.getD i d := by
  simp only [List.getD_eq_getElem?_getD, List.getElem?_take, if_pos h]
theorem lit_eq {α : Type} {s : Nat} {row : α → List D} {d : α} {l : List α} {rs : List (List D)} (h : rs = l.map row) : CEq (.d (.sl s rs.length fun i => rs.getD i [])) (slv s row d l) := by
  subst h
  refine CEq.sl (by simp) fun i hi => ?_
  have hi : i < l.length := by simpa using hi
  rw [List.getD_eq_getElem?_getD, List.getD_eq_getElem?_getD, List.getElem?_map, List.getElem?_eq_getElem hi]
  rfl
theorem QQ.sound {q : QI} (h : QQ q) : q.so := by
  cases h with
  | vsn | csn | enn | eqn | stn => trivial
  | vsc h t => exact ⟨h, t⟩
  | csc h t => exact ⟨h, t⟩
  | enc h c r => exact ⟨⟨h, cloB_ok c⟩, r⟩
  | eqc h r => exact ⟨h, r⟩
  | stc g h r => exact ⟨by rw [g]; exact h, r⟩
  | vr x => exact VEq.refl x
  | er x => exact EEq.same x
  | cr x => exact CEq.refl x
  | tru h => exact VEq.tru h
  | fls h => exact VEq.fls h
  | bool h => exact VEq.bool h
  | int h => exact VEq.int h
  | nil => exact VEq.nil
  | z => exact .c _ _ (.z _ _)
  | li1 => exact VEq.li_1
  | li2 => exact VEq.li_2
  | li3 => exact VEq.li_3
  | li4 => exact VEq.li_4
  | lp1 => exact VEq.lp_1
  | lp2 => exact VEq.lp_2
  | lp3 => exact VEq.lp_3
  | lp4 => exact VEq.lp_4
  | lt1 => exact VEq.lt_1
  | lt2 => exact VEq.lt_2
  | lt3 => exact VEq.lt_3
  | ms h => exact VEq.ms h
  | sll h => exact VEq.sll h
  | aggs h => exact VEq.aggs h
  | boxs h => exact EEq.boxs h
  | app1 h => exact EEq.app1 h
  | app2 h => exact EEq.app2 h
  | app3 h => exact EEq.app3 h
  | cms h => exact CEq.ms h
  | cint h => exact CEq.int h
  | csll h => exact CEq.sll h
  | cnil => exact CEq.nil
  | cz => exact .z _ _
  | ctru h => subst h; exact .tru
  | cfls h => subst h; exact .fls
  | cbool h => subst h; exact .refl _
  | lit h => exact .c _ _ (lit_eq h)
  | clit h => exact lit_eq h
  | fl h => subst h; exact .refl _
  | cx h h2 => subst h; subst h2; exact .refl _
  | mp h => subst h; exact .mp _ _
  | drp h => subst h; exact .c _ _ (CEq.sl (by simp) fun i hi => by rw [getD_drop'])
  | tak h => obtain ⟨h1, rfl⟩ := h; exact .c _ _ (CEq.sl (by simp; omega) fun i hi => by rw [getD_take' hi])
  | cut h => obtain ⟨h1, h2, rfl⟩ := h; exact .c _ _ (CEq.sl (by simp; omega) fun i hi => by rw [getD_drop', getD_take' (by omega)])
  | dapp h => obtain ⟨x, h1, rfl⟩ := h; exact .c _ _ (CEq.sl (by simp) fun i hi => row_app h1 i hi)
  | appg h => obtain ⟨x, h1, h2⟩ := h; exact EEq.app x h1 h2
  | apps h =>
    subst h
    refine EEq.rowl (by simp) fun i hi => ?_
    split
    · rename_i hlt; rw [List.getD_eq_getElem?_getD, List.getD_eq_getElem?_getD, List.getElem?_append_left hlt]
    · rename_i hlt; rw [List.getD_eq_getElem?_getD, List.getD_eq_getElem?_getD, List.getElem?_append_right (by omega)]
  | setg h => obtain ⟨x, h1, h2⟩ := h; exact setRw_eq x h1 h2
  | mk h =>
    obtain ⟨x, rfl, rfl⟩ := h
    refine EEq.rowl (by simp) fun i hi => ?_
    rw [List.getD_eq_getElem?_getD, List.getElem?_replicate, if_pos hi]; rfl
  | elit h =>
    subst h
    refine EEq.rowl (by simp) fun i hi => ?_
    rw [List.length_map] at hi
    rw [List.getD_eq_getElem?_getD, List.getD_eq_getElem?_getD, List.getElem?_map, List.getElem?_eq_getElem hi]
    rfl
  | rll h => subst h; exact EEq.same _
theorem qS {q : QI} (h : QQ q) : q.so := h.sound
theorem qv {x y : V} (h : QI.so (.v x y)) : VEq x y := h
theorem qc {x y : C} (h : QI.so (.c x y)) : CEq x y := h
theorem qe {x y : Ent} (h : QI.so (.e x y)) : EEq x y := h
theorem qvs {x y : List V} (h : QI.so (.vs x y)) : VEqs x y := h
theorem qcs {x y : List C} (h : QI.so (.cs x y)) : CEqs x y := h
theorem qen {x y : List (Nat × V)} (h : QI.so (.en x y)) : envIs x y := h
theorem qeq {π : Nat → Nat} {x y : List (Nat × V)} (h : QI.so (.eq π x y)) : envEq π x y := h
theorem qst {π : Nat → Nat} {x y : Store} (h : QI.so (.st π x y)) : stoEq π x y := h
theorem qis {base : Nat} {st st0 : St} {l : List Nat} (h : QI.so (.eq (nmAt base l) st.env st0.env)) (h2 : QI.so (.st (nmAt base l) st.σ st0.σ)) (nm : (nmOk base st0.nx l && envLtB st0.nx st0.env && stoLtB st0.nx st0.σ) = true := by exact rfl) : Is base st st0 l := ⟨nm, h, h2⟩
section
variable {P : Program} [m : Mix P] {N base : Nat}
theorem rqK {nx nx' : Nat} {rl : List RL} {vs vs0 : List V} {e : Exit} {st : St} (hres : resAll st.env st.σ rl = some vs0) (hv : QI.so (.vs vs0 vs)) (he : e = .normal ∨ e = .ret := by first | exact .inr rfl | exact .inl rfl) (hle : nx ≤ nx' := by exact Nat.le_refl _) (hc : cloL vs := by simp only [cloL, clo, cloC, cloCs, and_self]) : RetQ nx rl vs [] nx' e st :=
  RetQ.plain hle he hres hc hv
theorem rqF {nx nx' : Nat} {rl : List RL} {vs vs0 : List V} {e : Exit} {env : List (Nat × V)} {σ : Store} {nx1 : Nat} (t : Nat) (id : Nat) {n : Nat} {ty : TypeId} {s m : Nat} {f : Nat → List D} {fz : Bool} (hres : resAll env σ rl = some vs0) (h : lk (argEnv 0 vs0) t = .c (.ms id n)) (hg : get σ id = some (.row ty s m f fz))
    (hv : QI.so (.en ((t, .c (.d (.sl s n f))) :: argEnv 0 vs0) (argEnv 0 vs))) (hl : Nat.beq vs0.length vs.length = true := by exact rfl) (hle : Nat.ble nx nx' = true := by exact rfl) (hn : n ≤ m := by exact Nat.le_refl _) (he : e = .normal ∨ e = .ret := by first | exact .inr rfl | exact .inl rfl) : RetQ nx rl vs [] nx' e ⟨env, σ, nx1⟩ :=
  RetQ.of he hres hl ((Mv.freeze t id h hg hn).trans (Mv.plain hle hv))
theorem pi1 {f : FuncId} {lc : LCode} {rl : List RL} {args : List V} {v : V} (hf : FnOk P f N lc rl) (h : wp P N 0 lc ⟨argEnv 0 args, [], 0⟩ (RetQ 0 rl [v] [] 0)) (hN : Nat.ble args.length N = true := by exact rfl) (hc : cloL args := by simp only [cloL, clo, cloC, cloCs, and_self]) : PFD P f args v := PFD.of (vs := [v]) hf hN hc h
theorem pi2 {f : FuncId} {lc : LCode} {rl : List RL} {args : List V} {v v2 : V} (hf : FnOk P f N lc rl) (h : wp P N 0 lc ⟨argEnv 0 args, [], 0⟩ (RetQ 0 rl [v, v2] [] 0)) (hN : Nat.ble args.length N = true := by exact rfl) (hc : cloL args := by simp only [cloL, clo, cloC, cloCs, and_self]) : PFD P f args (.tup [v, v2]) := PFD.of (vs := [v, v2]) hf hN hc h
theorem pi3 {f : FuncId} {lc : LCode} {rl : List RL} {args : List V} {v v2 v3 : V} (hf : FnOk P f N lc rl) (h : wp P N 0 lc ⟨argEnv 0 args, [], 0⟩ (RetQ 0 rl [v, v2, v3] [] 0)) (hN : Nat.ble args.length N = true := by exact rfl) (hc : cloL args := by simp only [cloL, clo, cloC, cloCs, and_self]) : PFD P f args (.tup [v, v2, v3]) := PFD.of (vs := [v, v2, v3]) hf hN hc h
theorem fits {env : List (Nat × V)} {xs : List Operand} {args : List V} (h : Fits env xs args := by first | exact Fits.eq rfl | exact Fits.veq (qvs (by (repeat' first | exact rfl | (refine qS ?_; constructor)) <;> fail))) : Fits env xs args := h
variable {dst : Option Nat} {fop : Operand} {xs : List Operand} {g : Option (Nat × Bool)} {rest : List LIns} {env : List (Nat × V)} {σ : Store} {nx : Nat} {K : St → Prop} {f : FuncId} {args : List V} {v : V} {p : Prop} {M : List Nat} {acc : List (Bool × List Nat)}
theorem A1.oK (hc : PFD P f args v) (hf : evo env fop = .c (.fn f [])) (hg : guardOf env g = .run) (ha : (xs.map (evo env)).map normA = args) (h : putK dst v env fun env' => wpOps P N base rest env' σ nx none K) : OpsL P N base (⟨dst, .call fop xs, g⟩ :: rest) ⟨env, σ, nx⟩ K := Ops.pc hf (Fits.eq ha) hc hg h
theorem A2.oK (hc : p → PFD P f args v) (hf : evo env fop = .c (.fn f [])) (hg : guardOf env g = .run) (ha : (xs.map (evo env)).map normA = args) (h : putK dst v env fun env' => wpOps P N base rest env' σ nx none K) (hp : p := by exact ob) : OpsL P N base (⟨dst, .call fop xs, g⟩ :: rest) ⟨env, σ, nx⟩ K := Ops.pc hf (Fits.eq ha) (hc hp) hg h
theorem A3.oK (hc : PFD P f args v) (hf : evo env fop = .c (.fn f [])) (hg : guardOf env g = .run) (ha : (xs.map (evo env)).map normA = args) (h : putK dst v env fun env' => wpD P N base M rest env' σ nx none ((false, []) :: acc) K) : OpsDL P N base M (⟨dst, .call fop xs, g⟩ :: rest) ⟨env, σ, nx⟩ acc K := OpsD.pc hf (Fits.eq ha) hc hg h
theorem A4.oK (hc : p → PFD P f args v) (hf : evo env fop = .c (.fn f [])) (hg : guardOf env g = .run) (ha : (xs.map (evo env)).map normA = args) (h : putK dst v env fun env' => wpD P N base M rest env' σ nx none ((false, []) :: acc) K) (hp : p := by exact ob) : OpsDL P N base M (⟨dst, .call fop xs, g⟩ :: rest) ⟨env, σ, nx⟩ acc K := OpsD.pc hf (Fits.eq ha) (hc hp) hg h
theorem A1.pK (hc : PFD P f args v) (hf : evo env fop = .c (.fn f [])) (hg : guardOf env g = .run) (h : putK dst v env fun env' => wpOps P N base rest env' σ nx none K) (ha : Fits env xs args := by exact fits) : OpsL P N base (⟨dst, .call fop xs, g⟩ :: rest) ⟨env, σ, nx⟩ K := Ops.pc hf ha hc hg h
theorem A2.pK (hc : p → PFD P f args v) (hf : evo env fop = .c (.fn f [])) (hg : guardOf env g = .run) (h : putK dst v env fun env' => wpOps P N base rest env' σ nx none K) (ha : Fits env xs args := by exact fits) (hp : p := by exact ob) : OpsL P N base (⟨dst, .call fop xs, g⟩ :: rest) ⟨env, σ, nx⟩ K := Ops.pc hf ha (hc hp) hg h
theorem A3.pK (hc : PFD P f args v) (hf : evo env fop = .c (.fn f [])) (hg : guardOf env g = .run) (h : putK dst v env fun env' => wpD P N base M rest env' σ nx none ((false, []) :: acc) K) (ha : Fits env xs args := by exact fits) : OpsDL P N base M (⟨dst, .call fop xs, g⟩ :: rest) ⟨env, σ, nx⟩ acc K := OpsD.pc hf ha hc hg h
theorem A4.pK (hc : p → PFD P f args v) (hf : evo env fop = .c (.fn f [])) (hg : guardOf env g = .run) (h : putK dst v env fun env' => wpD P N base M rest env' σ nx none ((false, []) :: acc) K) (ha : Fits env xs args := by exact fits) (hp : p := by exact ob) : OpsDL P N base M (⟨dst, .call fop xs, g⟩ :: rest) ⟨env, σ, nx⟩ acc K := OpsD.pc hf ha (hc hp) hg h
variable {rows : List (List D)}
theorem RIs.rfl' : ∀ (R : List V), RIs R R
  | [] => .nil
  | _ :: R => .cons (RI.refl _) (RIs.rfl' R)
theorem ris0 {X Y : List V} (h : X.map normA = Y) : RIs X Y := h ▸ ris_norm _
theorem ris1 {x y : V} {R : List V} (h : QI.so (.v x y)) : RIs (x :: R) (y :: R) := .cons (VEq.ri (qv h)) (RIs.rfl' R)
theorem ris2 {x y x2 y2 : V} {R : List V} (h : QI.so (.v x y)) (h2 : QI.so (.v x2 y2)) : RIs (x :: x2 :: R) (y :: y2 :: R) := .cons (VEq.ri (qv h)) (.cons (VEq.ri (qv h2)) (RIs.rfl' R))
theorem fitsR {X args : List V} (h : RIs X args := by first | exact ris0 rfl | (refine ris1 ?_; (repeat' first | exact rfl | (refine qS ?_; constructor)); done) | (refine ris2 ?_ ?_; (repeat' first | exact rfl | (refine qS ?_; constructor)); done) | (refine VEqs.ris (qvs ?_); (repeat' first | exact rfl | (refine qS ?_; constructor)); done)) : RIs X args := h
theorem A1.pR (hc : PFD P f args v) (hf : evo env fop = .c (.fnR f rows)) (hg : guardOf env g = .run) (h : putK dst v env fun env' => wpOps P N base rest env' σ nx none K) (ha : RIs (xs.map (evo env) ++ rows.map fun r => V.c (.rp r)) args := by exact fitsR) : OpsL P N base (⟨dst, .call fop xs, g⟩ :: rest) ⟨env, σ, nx⟩ K := Ops.pcR hf ha hc hg h
theorem A2.pR (hc : p → PFD P f args v) (hf : evo env fop = .c (.fnR f rows)) (hg : guardOf env g = .run) (h : putK dst v env fun env' => wpOps P N base rest env' σ nx none K) (ha : RIs (xs.map (evo env) ++ rows.map fun r => V.c (.rp r)) args := by exact fitsR) (hp : p := by exact ob) : OpsL P N base (⟨dst, .call fop xs, g⟩ :: rest) ⟨env, σ, nx⟩ K := Ops.pcR hf ha (hc hp) hg h
theorem A3.pR (hc : PFD P f args v) (hf : evo env fop = .c (.fnR f rows)) (hg : guardOf env g = .run) (h : putK dst v env fun env' => wpD P N base M rest env' σ nx none ((false, []) :: acc) K) (ha : RIs (xs.map (evo env) ++ rows.map fun r => V.c (.rp r)) args := by exact fitsR) : OpsDL P N base M (⟨dst, .call fop xs, g⟩ :: rest) ⟨env, σ, nx⟩ acc K := OpsD.pcR hf ha hc hg h
theorem A4.pR (hc : p → PFD P f args v) (hf : evo env fop = .c (.fnR f rows)) (hg : guardOf env g = .run) (h : putK dst v env fun env' => wpD P N base M rest env' σ nx none ((false, []) :: acc) K) (ha : RIs (xs.map (evo env) ++ rows.map fun r => V.c (.rp r)) args := by exact fitsR) (hp : p := by exact ob) : OpsDL P N base M (⟨dst, .call fop xs, g⟩ :: rest) ⟨env, σ, nx⟩ acc K := OpsD.pcR hf ha (hc hp) hg h
variable {ds : List D}
end
end Go.Pw

set_option linter.unusedVariables false
namespace Go.Pw
open Go Go.RowKit
theorem liveId_setE {Γ : Cx} {σ : Store} {id : Nat} {x y : Ent} (hg : get σ id = some x) (h : EEq x y) (j : Nat) : LiveId Γ (set σ id y) j ↔ LiveId Γ σ j := by
  rw [liveId_iff, liveId_iff]
  by_cases hj : j = id
  · subst hj
    rw [get_set_same hg]
    constructor
    · rintro ⟨e, he, hl⟩; cases he; exact ⟨x, hg, h.live.1 hl⟩
    · rintro ⟨e, he, hl⟩; rw [hg] at he; cases he; exact ⟨y, rfl, h.live.2 hl⟩
  · rw [get_set_other hj]
theorem StoreOk.setE {Γ : Cx} {w : World} {σ : Store} {id : Nat} {x y : Ent} (hs : StoreOk Γ w σ) (hg : get σ id = some x) (h : EEq x y) : StoreOk Γ w (set σ id y) where
  im := hs.im
  ok := fun j e he => by
    by_cases hj : j = id
    · subst hj
      rw [get_set_same hg] at he; cases he
      obtain ⟨b, hb, hok⟩ := hs.ok j x hg
      exact ⟨b, hb, h.ent hok⟩
    · rw [get_set_other hj] at he; exact hs.ok j e he
  inj := fun i j k hi hj => hs.inj i j k ((liveId_setE hg h i).1 hi) ((liveId_setE hg h j).1 hj)
  lay := hs.lay
theorem Mv.ent {base : Nat} {env : List (Nat × V)} {σ : Store} {nx id : Nat} {x y : Ent} (hg : get σ id = some x) (h : EEq x y) : Mv base ⟨env, σ, nx⟩ ⟨env, set σ id y, nx⟩ := fun N B0 Γ w a hc => by
  have hl : ∀ k, Live Γ (set σ id y) k ↔ Live Γ σ k := fun k => ⟨fun ⟨i, hi, hk⟩ => ⟨i, (liveId_setE hg h i).1 hi, hk⟩, fun ⟨i, hi, hk⟩ => ⟨i, (liveId_setE hg h i).2 hi, hk⟩⟩
  refine ⟨Γ, ⟨hc.size, hc.env, hc.ok.setE hg h, hc.free, hc.le, ?_⟩, ⟨rfl, rfl, rfl, Nat.le_refl _, fun _ h => h, fun _ h => .inl h, fun _ _ => rfl, fun _ _ => rfl, fun _ _ _ => rfl, fun k hk => .inl ((hl k).1 hk)⟩⟩
  obtain ⟨Ds, d1, d2, d3⟩ := hc.dfs
  refine ⟨Ds, d1, d2, fun D hD => ?_⟩
  obtain ⟨d4, d5, d6, d7⟩ := d3 D hD
  exact ⟨d4, d5, fun hlv => d6 ((hl D).1 hlv), d7⟩
section
variable {P : Program} {N base : Nat} {env : List (Nat × V)} {σ : Store} {nx : Nat} {x y : Ent}
theorem OpsL.ent {ops : List LIns} {K : St → Prop} (id : Nat) (hg : get σ id = some x) (h : EEq x y) (k : frS (set σ id y) fun σ' => OpsL P N base ops ⟨env, σ', nx⟩ K) : OpsL P N base ops ⟨env, σ, nx⟩ K := by
  rw [frS_eq] at k
  exact ⟨Ops.from (Mv.ent hg h) k.h⟩
theorem OpsL.go {ops : List LIns} {K : St → Prop} (h : wpOps P N base ops env σ nx none K) : OpsL P N base ops ⟨env, σ, nx⟩ K := ⟨Ops.wp h⟩
theorem SatL.ent {c : LCode} {Q : Exit → St → Prop} (id : Nat) (hg : get σ id = some x) (h : EEq x y) (k : frS (set σ id y) fun σ' => SatL P N base c ⟨env, σ', nx⟩ Q) : SatL P N base c ⟨env, σ, nx⟩ Q := by
  rw [frS_eq] at k
  exact ⟨Sat.from (Mv.ent hg h) k.h⟩
theorem MvQ.ent {e : Exit} {Q : Exit → St → Prop} (id : Nat) (hg : get σ id = some x) (h : EEq x y) (k : frS (set σ id y) fun σ' => MvQ base Q e ⟨env, σ', nx⟩) : MvQ base Q e ⟨env, σ, nx⟩ := by
  rw [frS_eq] at k
  exact MvQ.from (Mv.ent hg h) k
/-- A slot says it otherwise. -/
theorem SatL.as {c : LCode} {Q : Exit → St → Prop} (t : Nat) (v : V) (h : VEq (lk env t) v) (k : SatL P N base c ⟨(t, v) :: env, σ, nx⟩ Q) : SatL P N base c ⟨env, σ, nx⟩ Q :=
  ⟨Sat.from (Mv.env fun t' => by
    rw [lk_cons]
    split
    · rename_i ht; subst ht; exact h.ri
    · exact RI.refl _) k.h⟩
theorem OpsL.as {ops : List LIns} {K : St → Prop} (t : Nat) (v : V) (h : VEq (lk env t) v) (k : OpsL P N base ops ⟨(t, v) :: env, σ, nx⟩ K) : OpsL P N base ops ⟨env, σ, nx⟩ K :=
  ⟨Ops.from (Mv.env fun t' => by
    rw [lk_cons]
    split
    · rename_i ht; subst ht; exact h.ri
    · exact RI.refl _) k.h⟩
theorem VEq.cut {α : Type} {s k j : Nat} {row : α → List D} {d : α} {l m : List α} (h1 : k ≤ j) (h2 : j ≤ l.length) (h : m = (l.take j).drop k) : VEq (.c (.d (.sl s (j - k) fun i => row (l.getD (k + i) d)))) (.c (slv s row d m)) := QQ.sound (.cut ⟨h1, h2, h⟩)
/-- The row of a slot is closed. -/
theorem SatL.frz {c : LCode} {Q : Exit → St → Prop} (t id : Nat) {n : Nat} {e : TypeId} {s m : Nat} {f : Nat → List D} {fz : Bool} (h : lk env t = .c (.ms id n)) (hg : get σ id = some (.row e s m f fz)) (hn : n ≤ m)
    (k : frS (set σ id (.row e s m f true)) fun σ' => SatL P N base c ⟨(t, .c (.d (.sl s n f))) :: env, σ', nx⟩ Q) : SatL P N base c ⟨env, σ, nx⟩ Q := by
  rw [frS_eq] at k
  exact ⟨Sat.from (Mv.freeze t id h hg hn) k.h⟩
end
end Go.Pw

set_option linter.unusedSimpArgs false
set_option linter.unusedVariables false
namespace Go.Pw
open Go
theorem mbd {a b A B : Int} (ha : -A ≤ a ∧ a ≤ A) (hb : -B ≤ b ∧ b ≤ B) : -(A * B) ≤ a * b ∧ a * b ≤ A * B := by
  have hA : 0 ≤ A := by omega
  have hB : 0 ≤ B := by omega
  have h : (a * b).natAbs ≤ (A * B).natAbs := by
    rw [Int.natAbs_mul, Int.natAbs_mul]
    exact Nat.mul_le_mul (by omega) (by omega)
  have : 0 ≤ A * B := Int.mul_nonneg hA hB
  omega
abbrev wi (n lo hi : Int) : Bool := decide (lo ≤ n ∧ n ≤ hi)
/-- An error unless. -/
def unb : Bool → Int → Int
  | true, _ => 0
  | false, e => e
abbrev unl (p : Prop) [Decidable p] (e : Int) : Int := unb (decide p) e
theorem unl_eq {p : Prop} [Decidable p] {e : Int} : unl p e = if p then 0 else e := by
  by_cases h : p <;> simp [unl, unb, h]
/-- The first one that is not 0. -/
def fstE : List Int → Int
  | [] => 0
  | e :: l => if e = 0 then fstE l else e
theorem fstE_drop (l : List Int) (k : Nat) (h : k < l.length) : fstE (l.drop k) = if l.getD k 0 = 0 then fstE (l.drop (k + 1)) else l.getD k 0 := by
  rw [List.drop_eq_getElem_cons h, fstE, List.getD_eq_getElem?_getD, List.getElem?_eq_getElem h]
  rfl
theorem floor_eq {n b : Int} (hb : 0 < b) : (if n.tmod b < 0 then n.tdiv b - 1 else n.tdiv b) = n / b := by
  have h1 := Int.tmod_add_mul_tdiv n b
  have h2 := Int.emod_add_mul_ediv n b
  have h3 := Int.emod_nonneg n (show b ≠ 0 by omega)
  have h4 := Int.emod_lt_of_pos n hb
  have h5 : n.tmod b < b := Int.tmod_lt_of_pos n hb
  have h6 : -b < n.tmod b := by
    have := Int.natAbs_tmod n b
    have h7 : (n.natAbs % b.natAbs) < b.natAbs := Nat.mod_lt _ (by omega)
    omega
  split
  · refine Int.eq_of_mul_eq_mul_left (show b ≠ 0 by omega) ?_
    have h7 : b * (n / b) - b * (n.tdiv b - 1) = n.tmod b + b - n % b := by rw [Int.mul_sub]; omega
    have h8 : b * (n / b) - b * (n.tdiv b - 1) = b * (n / b - (n.tdiv b - 1)) := by rw [← Int.mul_sub]
    rw [h8] at h7
    have h9 : n / b - (n.tdiv b - 1) = 0 := by
      rcases Int.lt_trichotomy (n / b - (n.tdiv b - 1)) 0 with h | h | h
      · have := Int.mul_le_mul_of_nonneg_left (show n / b - (n.tdiv b - 1) ≤ -1 by omega) (show 0 ≤ b by omega); omega
      · exact h
      · have := Int.mul_le_mul_of_nonneg_left (show 1 ≤ n / b - (n.tdiv b - 1) by omega) (show 0 ≤ b by omega); omega
    rw [show n.tdiv b - 1 = n / b by omega]
  · have h7 : b * (n / b) - b * n.tdiv b = n.tmod b - n % b := by omega
    rw [← Int.mul_sub] at h7
    rcases Int.lt_trichotomy (n / b - n.tdiv b) 0 with h | h | h
    · have := Int.mul_le_mul_of_nonneg_left (show n / b - n.tdiv b ≤ -1 by omega) (show 0 ≤ b by omega); omega
    · omega
    · have := Int.mul_le_mul_of_nonneg_left (show 1 ≤ n / b - n.tdiv b by omega) (show 0 ≤ b by omega); omega
theorem mod_eq {n b : Int} (hb : 0 < b) : (if n.tmod b < 0 then n.tmod b + b else n.tmod b) = n % b := by
  have h1 := Int.tmod_add_mul_tdiv n b
  have h2 := Int.emod_add_mul_ediv n b
  have h3 := floor_eq (n := n) hb
  split
  · rename_i h; rw [if_pos h] at h3; rw [← h3, Int.mul_sub] at h2; omega
  · rename_i h; rw [if_neg h] at h3; rw [← h3] at h2; omega
abbrev Md (n : Int) : Prop := -4611686018427387904 ≤ n ∧ n ≤ 4611686018427387904
theorem tmod_bd {n b : Int} (hb : 0 < b) : -b < n.tmod b ∧ n.tmod b < b := by
  have h5 : n.tmod b < b := Int.tmod_lt_of_pos n hb
  have := Int.natAbs_tmod n b
  have h7 : (n.natAbs % b.natAbs) < b.natAbs := Nat.mod_lt _ (by omega)
  omega
theorem ext_getD {α : Type} (d : α) {l m : List α} (hl : l.length = m.length) (h : ∀ i, i < l.length → l.getD i d = m.getD i d) : l = m := by
  refine List.ext_getElem hl fun i h1 h2 => ?_
  have := h i h1
  simpa [List.getD_eq_getElem?_getD, h1, h2] using this
theorem u64_wrap (n : Int) : IntKind.u64.wrap n = n % 18446744073709551616 := rfl
theorem take_app (l : List Int) (k : Nat) (h : k < l.length) : l.take (k + 1) = l.take k ++ [l.getD k 0] := by
  rw [List.take_succ_eq_append_getElem h, List.getD_eq_getElem?_getD, List.getElem?_eq_getElem h]; rfl
abbrev Lk := Int × Int × Int
abbrev Rg := Int × Int
/-- The first bad item, from index k on, and its error. -/
def eachE {α : Type} (f : α → Int) : Nat → List α → Int × Int
  | _, [] => (0, 0)
  | k, x :: l => if f x = 0 then eachE f (k + 1) l else (k, f x)
theorem eachE_drop {α : Type} (f : α → Int) (d : α) (l : List α) (k : Nat) (h : k < l.length) : eachE f k (l.drop k) = if f (l.getD k d) = 0 then eachE f (k + 1) (l.drop (k + 1)) else ((k : Int), f (l.getD k d)) := by
  rw [List.drop_eq_getElem_cons h, eachE, List.getD_eq_getElem?_getD, List.getElem?_eq_getElem h]
  rfl
theorem eachE_ok {α : Type} {f : α → Int} : ∀ {l : List α} {k : Nat}, (eachE f k l).2 = 0 ↔ ∀ x ∈ l, f x = 0
  | [], k => by simp [eachE]
  | x :: l, k => by
    rw [eachE]
    split
    · rename_i h; rw [eachE_ok (l := l)]; simp [h]
    · rename_i h; simp [h]
theorem eachE_fst {α : Type} {f : α → Int} : ∀ {l : List α} {k : Nat}, (eachE f k l).2 = 0 → (eachE f k l).1 = 0
  | [], k, _ => rfl
  | x :: l, k, h => by
    rw [eachE] at h ⊢
    split
    · rename_i hx; rw [if_pos hx] at h; exact eachE_fst h
    · rename_i hx; rw [if_neg hx] at h; exact absurd h hx
abbrev lkOk (k : Lk) : Prop := (1 ≤ k.1 ∧ k.1 ≤ 1000) ∧ (-1000 ≤ k.2.1 ∧ k.2.1 ≤ 1000) ∧ 0 ≤ k.2.2 ∧ k.2.2 ≤ 20
abbrev curOk (n : Int) : Prop := -50 ≤ n ∧ n ≤ 50
/-- A valid line. -/
structure LnOk (x z : Int) (l : List Lk) : Prop where
  x : -10000 ≤ x ∧ x ≤ 10000
  z : -10000 ≤ z ∧ z ≤ 10000
  n : 0 < l.length ∧ l.length ≤ 10
  l : ∀ k ∈ l, lkOk k
structure Ln where
  x : Int
  z : Int
  l : List Lk
  b : List Rg
abbrev Ln.v (L : Ln) : List C := [int L.x, int L.z, trs L.l, prs L.b]
def Ln.h (L : Ln) (k : Nat) : Int := (L.l.getD k (0, 0, 0)).1
def Ln.w (L : Ln) (k : Nat) : Int := (L.l.getD k (0, 0, 0)).2.1
def Ln.d (L : Ln) (k : Nat) : Int := (L.l.getD k (0, 0, 0)).2.2
def Ln.lo (L : Ln) (k : Nat) : Int := (L.b.getD k (0, 0)).1
def Ln.hi (L : Ln) (k : Nat) : Int := (L.b.getD k (0, 0)).2
/-- The pull behind k links; the height of the last one. -/
def Ln.pl (L : Ln) : Nat → Int
  | 0 => L.x
  | k + 1 => L.pl k + L.d k * L.lo k
def Ln.ph (L : Ln) : Nat → Int
  | 0 => L.x
  | k + 1 => L.ph k + L.d k * L.hi k
def Ln.pz (L : Ln) : Nat → Int
  | 0 => L.z
  | k + 1 => L.pz k + L.w k
def Ln.hh (L : Ln) : Nat → Int
  | 0 => 0
  | k + 1 => L.h k
/-- A valid line with ranges of currents. -/
structure Ln.Ok (L : Ln) : Prop where
  k : LnOk L.x L.z L.l
  b : L.b.length = L.l.length
  c : ∀ r ∈ L.b, curOk r.1 ∧ curOk r.2 ∧ r.1 ≤ r.2
theorem getD_mem {α : Type} {l : List α} {k : Nat} (d : α) (h : k < l.length) : l.getD k d ∈ l := by
  rw [List.getD_eq_getElem?_getD, List.getElem?_eq_getElem h]; exact List.getElem_mem _
theorem Ln.Ok.lk {L : Ln} (h : L.Ok) {k : Nat} (hk : k < L.l.length) : (1 ≤ L.h k ∧ L.h k ≤ 1000) ∧ (-1000 ≤ L.w k ∧ L.w k ≤ 1000) ∧ 0 ≤ L.d k ∧ L.d k ≤ 20 := h.k.l _ (getD_mem _ hk)
theorem Ln.Ok.rg {L : Ln} (h : L.Ok) {k : Nat} (hk : k < L.l.length) : (-50 ≤ L.lo k ∧ L.lo k ≤ 50) ∧ (-50 ≤ L.hi k ∧ L.hi k ≤ 50) ∧ L.lo k ≤ L.hi k := h.c _ (getD_mem _ (by rw [h.b]; exact hk))
theorem Ln.Ok.dlo {L : Ln} (h : L.Ok) {k : Nat} (hk : k < L.l.length) : -1000 ≤ L.d k * L.lo k ∧ L.d k * L.lo k ≤ 1000 := by
  have h1 := h.lk hk
  have h2 := h.rg hk
  exact mbd (A := 20) (B := 50) (by omega) (by omega)
theorem Ln.Ok.dhi {L : Ln} (h : L.Ok) {k : Nat} (hk : k < L.l.length) : -1000 ≤ L.d k * L.hi k ∧ L.d k * L.hi k ≤ 1000 := by
  have h1 := h.lk hk
  have h2 := h.rg hk
  exact mbd (A := 20) (B := 50) (by omega) (by omega)
theorem Ln.Ok.bd {L : Ln} (h : L.Ok) : ∀ k : Nat, k ≤ L.l.length → (-20000 ≤ L.pl k ∧ L.pl k ≤ 20000) ∧ (-20000 ≤ L.ph k ∧ L.ph k ≤ 20000) ∧ -20000 ≤ L.pz k ∧ L.pz k ≤ 20000 := by
  have key : ∀ k : Nat, k ≤ L.l.length → (-10000 - 1000 * k ≤ L.pl k ∧ L.pl k ≤ 10000 + 1000 * k) ∧ (-10000 - 1000 * k ≤ L.ph k ∧ L.ph k ≤ 10000 + 1000 * k) ∧ -10000 - 1000 * k ≤ L.pz k ∧ L.pz k ≤ 10000 + 1000 * k := by
    intro k
    induction k with
    | zero => intro _; have := h.k.x; have := h.k.z; simp only [Ln.pl, Ln.ph, Ln.pz]; omega
    | succ k ih =>
      intro hk
      have := ih (by omega)
      have h1 := h.dlo (k := k) (by omega)
      have h2 := h.dhi (k := k) (by omega)
      have h3 := h.lk (k := k) (by omega)
      simp only [Ln.pl, Ln.ph, Ln.pz]
      omega
  intro k hk
  have := key k hk
  have := h.k.n
  omega
/-- What a round over the pulls knows. -/
theorem Ln.Ok.round {L : Ln} (h : L.Ok) {k : Nat} (hk : k < L.l.length) :
    (-1000 ≤ (L.l.getD k (0, 0, 0)).2.2 * (L.b.getD k (0, 0)).1 ∧ (L.l.getD k (0, 0, 0)).2.2 * (L.b.getD k (0, 0)).1 ≤ 1000) ∧
    (-1000 ≤ (L.l.getD k (0, 0, 0)).2.2 * (L.b.getD k (0, 0)).2 ∧ (L.l.getD k (0, 0, 0)).2.2 * (L.b.getD k (0, 0)).2 ≤ 1000) ∧
    (-1000 ≤ (L.l.getD k (0, 0, 0)).2.1 ∧ (L.l.getD k (0, 0, 0)).2.1 ≤ 1000) ∧
    ((-20000 ≤ L.pl k ∧ L.pl k ≤ 20000) ∧ (-20000 ≤ L.ph k ∧ L.ph k ≤ 20000) ∧ -20000 ≤ L.pz k ∧ L.pz k ≤ 20000) ∧ L.b.length = L.l.length ∧ 0 < L.l.length ∧ L.l.length ≤ 10 :=
  ⟨h.dlo hk, h.dhi hk, (h.lk hk).2.1, h.bd k (by omega), h.b, h.k.n.1, h.k.n.2⟩
theorem map_take {α β : Type} (f : α → β) (d : α) (l : List α) (k : Nat) (h : k < l.length) : (l.take (k + 1)).map f = (l.take k).map f ++ [f (l.getD k d)] := by
  rw [List.take_succ_eq_append_getElem h, List.map_append, List.getD_eq_getElem?_getD, List.getElem?_eq_getElem h]; rfl
def fltL (p : Nat → Bool) (k : Nat) : List Int := ((List.range k).filter p).map fun i : Nat => (i : Int)
theorem fltL_succ (p : Nat → Bool) (k : Nat) : fltL p (k + 1) = if p k = true then fltL p k ++ [(k : Int)] else fltL p k := by
  simp only [fltL, List.range_succ, List.filter_append, List.map_append]
  by_cases h : p k = true <;> simp [h]
theorem fltL_len (p : Nat → Bool) (k : Nat) : (fltL p k).length ≤ k := by
  have := List.length_filter_le p (List.range k)
  simp [fltL] at *; exact this
abbrev w64 (n : Int) : Prop := -9223372036854775808 ≤ n ∧ n ≤ 9223372036854775807
theorem w64_i {n : Int} (h : IntKind.has .i64 n = true) : w64 n := by
  simp only [IntKind.has, IntKind.min, IntKind.max, IntKind.signed, IntKind.bits, Bool.and_eq_true, decide_eq_true_eq] at h
  simp at h
  exact ⟨by omega, by omega⟩
end Go.Pw

set_option linter.unusedVariables false
set_option maxHeartbeats 2000000
set_option maxRecDepth 100000
namespace Go.Pw
open Go Go.Proofs
/-- moonpool/moonpooltop.TopSonarHeard -/
def lc3 : LCode :=
  (.seq (.region [⟨some 6, .mv (.const (.bool false)), none⟩]) (.seq (.seq (.region [⟨some 22, .call (.func 4) [], none⟩, ⟨some 23, .un .not (.tmp 22), none⟩]) (.cond (.tmp 23)
    (.seq (.region [⟨some 6, .mv (.const (.bool false)), none⟩]) .ret) .skip)) (.seq (.seq (.region [⟨some 24, .mv (.tmp 0), none⟩, ⟨some 25, .len (.tmp 24), none⟩, ⟨some 26, .bin
    .eql (.tmp 25) (.const (.int .i64 0)), none⟩, ⟨some 27, .mv (.tmp 26), none⟩, ⟨some 28, .mv (.tmp 0), some (27, false)⟩, ⟨some 29, .len (.tmp 28), some (27, false)⟩, ⟨some 30,
    .bin .gtr (.tmp 29) (.const (.int .i64 3)), some (27, false)⟩, ⟨some 31, .pick (.tmp 27) (.const (.bool true)) (.tmp 30), none⟩, ⟨some 32, .mv (.tmp 31), none⟩, ⟨some 33, .mv
    (.tmp 1), some (32, false)⟩, ⟨some 34, .call (.func 5) [(.tmp 33)], some (32, false)⟩, ⟨some 35, .bin .neq (.tmp 34) (.const (.int .i64 0)), some (32, false)⟩, ⟨some 36, .pick
    (.tmp 32) (.const (.bool true)) (.tmp 35), none⟩, ⟨some 37, .mv (.tmp 36), none⟩, ⟨some 38, .mv (.tmp 2), some (37, false)⟩, ⟨some 39, .call (.func 6) [(.tmp 38), (.const (.int
    .i64 0)), (.const (.int .i64 100000))], some (37, false)⟩, ⟨some 40, .un .not (.tmp 39), some (37, false)⟩, ⟨some 41, .pick (.tmp 37) (.const (.bool true)) (.tmp 40), none⟩])
    (.cond (.tmp 41) (.seq (.region [⟨some 6, .mv (.const (.bool true)), none⟩]) .ret) .skip)) (.seq (.region [⟨some 43, .mv (.tmp 1), none⟩, ⟨some 44, .call (.func 8) [(.tmp 43)],
    none⟩, ⟨some 45, .mv (.tmp 2), none⟩, ⟨some 46, .call (.func 7) [(.tmp 44), (.tmp 45)], none⟩, ⟨some 42, .mv (.tmp 46), none⟩, ⟨some 47, .ext (.tmp 42) 0, none⟩, ⟨some 48, .ext
    (.tmp 42) 1, none⟩, ⟨some 7, .alloc [(.int .i64 0), (.int .i64 0)], none⟩, ⟨none, .store 2 (.tmp 7) (.tmp 47), none⟩, ⟨some 8, .mv (.tmp 48), none⟩]) (.seq (.seq (.region [⟨some
    49, .mv (.tmp 8), none⟩, ⟨some 50, .bin .neq (.tmp 49) (.const (.int .i64 0)), none⟩, ⟨some 51, .mv (.tmp 50), none⟩, ⟨some 52, .fld 0 (.tmp 7), some (51, false)⟩, ⟨some 53,
    .load false 1 (.tmp 52), some (51, false)⟩, ⟨some 54, .bin .lss (.tmp 53) (.const (.int .i64 0)), some (51, false)⟩, ⟨some 55, .pick (.tmp 51) (.const (.bool true)) (.tmp 54),
    none⟩, ⟨some 56, .mv (.tmp 55), none⟩, ⟨some 57, .fld 1 (.tmp 7), some (56, false)⟩, ⟨some 58, .load false 1 (.tmp 57), some (56, false)⟩, ⟨some 59, .fld 0 (.tmp 7), some (56,
    false)⟩, ⟨some 60, .load false 1 (.tmp 59), some (56, false)⟩, ⟨some 61, .bin .lss (.tmp 58) (.tmp 60), some (56, false)⟩, ⟨some 62, .pick (.tmp 56) (.const (.bool true)) (.tmp
    61), none⟩]) (.cond (.tmp 62) (.seq (.region [⟨some 6, .mv (.const (.bool false)), none⟩]) .ret) .skip)) (.seq (.seq (.region [⟨some 63, .fld 1 (.tmp 7), none⟩, ⟨some 64, .load
    false 1 (.tmp 63), none⟩, ⟨some 65, .bin .gtr (.tmp 64) (.const (.int .i64 5)), none⟩]) (.cond (.tmp 65) (.seq (.region [⟨some 6, .mv (.const (.bool true)), none⟩]) .ret)
    .skip)) (.seq (.regionD [⟨some 67, .mv (.tmp 1), none⟩, ⟨some 68, .call (.func 8) [(.tmp 67)], none⟩, ⟨some 69, .fld 0 (.tmp 7), none⟩, ⟨some 70, .load false 1 (.tmp 69), none⟩,
    ⟨some 71, .call (.func 9) [(.tmp 68), (.tmp 70)], none⟩, ⟨some 66, .mv (.tmp 71), none⟩, ⟨some 72, .ext (.tmp 66) 0, none⟩, ⟨some 73, .ext (.tmp 66) 1, none⟩, ⟨some 9, .alloc
    [(.int .i64 0), (.int .i64 0)], none⟩, ⟨none, .store 2 (.tmp 9) (.tmp 72), none⟩, ⟨some 10, .mv (.tmp 73), none⟩] [0, 1, 0, 4, 15, 31, 63, 63, 0, 383, 1023] [0, 1, 2, 3, 4, 5,
    6, 7, 8, 9, 10]) (.seq (.regionD [⟨some 75, .mv (.tmp 1), none⟩, ⟨some 76, .call (.func 8) [(.tmp 75)], none⟩, ⟨some 77, .fld 1 (.tmp 7), none⟩, ⟨some 78, .load false 1 (.tmp
    77), none⟩, ⟨some 79, .call (.func 9) [(.tmp 76), (.tmp 78)], none⟩, ⟨some 74, .mv (.tmp 79), none⟩, ⟨some 80, .ext (.tmp 74) 0, none⟩, ⟨some 81, .ext (.tmp 74) 1, none⟩, ⟨some
    11, .alloc [(.int .i64 0), (.int .i64 0)], none⟩, ⟨none, .store 2 (.tmp 11) (.tmp 80), none⟩, ⟨some 12, .mv (.tmp 81), none⟩] [0, 1, 0, 4, 15, 31, 63, 63, 0, 383, 1023] [0, 1,
    2, 3, 4, 5, 6, 7, 8, 9, 10]) (.seq (.seq (.region [⟨some 82, .mv (.tmp 10), none⟩, ⟨some 83, .bin .neq (.tmp 82) (.const (.int .i64 0)), none⟩, ⟨some 84, .mv (.tmp 83), none⟩,
    ⟨some 85, .mv (.tmp 12), some (84, false)⟩, ⟨some 86, .bin .neq (.tmp 85) (.const (.int .i64 0)), some (84, false)⟩, ⟨some 87, .pick (.tmp 84) (.const (.bool true)) (.tmp 86),
    none⟩, ⟨some 88, .mv (.tmp 87), none⟩, ⟨some 89, .fld 0 (.tmp 9), some (88, false)⟩, ⟨some 90, .load false 1 (.tmp 89), some (88, false)⟩, ⟨some 91, .mv (.tmp 2), some (88,
    false)⟩, ⟨some 92, .bin .gtr (.tmp 90) (.tmp 91), some (88, false)⟩, ⟨some 93, .pick (.tmp 88) (.const (.bool true)) (.tmp 92), none⟩, ⟨some 94, .mv (.tmp 93), none⟩, ⟨some 95,
    .fld 1 (.tmp 11), some (94, false)⟩, ⟨some 96, .load false 1 (.tmp 95), some (94, false)⟩, ⟨some 97, .mv (.tmp 2), some (94, false)⟩, ⟨some 98, .bin .lss (.tmp 96) (.tmp 97),
    some (94, false)⟩, ⟨some 99, .pick (.tmp 94) (.const (.bool true)) (.tmp 98), none⟩]) (.cond (.tmp 99) (.seq (.region [⟨some 6, .mv (.const (.bool false)), none⟩]) .ret) .skip))
    (.seq (.region [⟨some 13, .mv (.const (.slice none 0 0)), none⟩]) (.seq (.seq (.region [⟨some 14, .mv (.const (.int .i64 0)), none⟩]) (.block 0 (.loop (.seq (.seq (.region
    [⟨some 100, .mv (.tmp 14), none⟩, ⟨some 101, .mv (.tmp 0), none⟩, ⟨some 102, .len (.tmp 101), none⟩, ⟨some 103, .bin .lss (.tmp 100) (.tmp 102), none⟩]) (.cond (.tmp 103) .skip
    (.exit 0))) (.seq (.block 1 (.regionD [⟨some 106, .mv (.tmp 13), none⟩, ⟨some 107, .mv (.tmp 0), none⟩, ⟨some 108, .mv (.tmp 14), none⟩, ⟨some 109, .idx 1 (.tmp 107) (.tmp 108),
    none⟩, ⟨some 110, .load false 1 (.tmp 109), none⟩, ⟨some 111, .call (.func 10) [(.tmp 110), (.const (.int .i64 4))], none⟩, ⟨some 112, .mv (.tmp 0), none⟩, ⟨some 113, .mv (.tmp
    14), none⟩, ⟨some 114, .idx 1 (.tmp 112) (.tmp 113), none⟩, ⟨some 115, .load false 1 (.tmp 114), none⟩, ⟨some 116, .call (.func 10) [(.tmp 115), (.const (.int .i64 3))], none⟩,
    ⟨some 117, .bin .add (.const (.int .i64 1)) (.tmp 116), none⟩, ⟨some 118, .fld 1 (.tmp 7), none⟩, ⟨some 119, .load false 1 (.tmp 118), none⟩, ⟨some 120, .bin .mul (.const (.int
    .i64 2)) (.tmp 119), none⟩, ⟨some 121, .build [(.int .i64 0), (.int .i64 0), (.int .i64 0)] [(0, 1, (.tmp 111)), (1, 1, (.tmp 117)), (2, 1, (.tmp 120))], none⟩, ⟨some 122, .lit
    false 36 3 [(.tmp 121)], none⟩, ⟨some 123, .append true 36 3 24 (.tmp 106) (.tmp 122), none⟩, ⟨some 13, .mv (.tmp 123), none⟩] [0, 0, 0, 6, 14, 30, 0, 0, 192, 448, 1022, 2046,
    0, 4096, 12288, 32766, 65534, 131071, 262143] [0, 1, 2, 3, 4, 5, 6, 7, 8, 9, 10, 11, 12, 13, 14, 15, 16, 17, 18])) (.region [⟨some 104, .mv (.tmp 14), none⟩, ⟨some 105, .bin
    .add (.tmp 104) (.const (.int .i64 1)), none⟩, ⟨some 14, .mv (.tmp 105), none⟩])))))) (.seq (.region [⟨some 125, .mv (.tmp 13), none⟩, ⟨some 126, .call (.func 12) [(.tmp 125)],
    none⟩, ⟨some 127, .call (.func 11) [(.tmp 126)], none⟩, ⟨some 124, .mv (.tmp 127), none⟩, ⟨some 128, .ext (.tmp 124) 0, none⟩, ⟨some 129, .ext (.tmp 124) 1, none⟩, ⟨some 15,
    .alloc [(.int .i64 0), (.slice none 0 0)], none⟩, ⟨none, .store 2 (.tmp 15) (.tmp 128), none⟩, ⟨some 16, .mv (.tmp 129), none⟩]) (.seq (.seq (.region [⟨some 130, .mv (.tmp 16),
    none⟩, ⟨some 131, .bin .eql (.tmp 130) (.const (.int .i64 12)), none⟩]) (.cond (.tmp 131) (.seq (.region [⟨some 6, .mv (.const (.bool true)), none⟩]) .ret) .skip)) (.seq (.seq
    (.region [⟨some 132, .mv (.tmp 16), none⟩, ⟨some 133, .bin .neq (.tmp 132) (.const (.int .i64 0)), none⟩, ⟨some 134, .mv (.tmp 133), none⟩, ⟨some 135, .mv (.tmp 13), some (134,
    false)⟩, ⟨some 136, .load true 2 (.tmp 15), some (134, false)⟩, ⟨some 137, .call (.func 13) [(.tmp 135), (.tmp 136)], some (134, false)⟩, ⟨some 138, .bin .neq (.tmp 137) (.const
    (.int .i64 0)), some (134, false)⟩, ⟨some 139, .pick (.tmp 134) (.const (.bool true)) (.tmp 138), none⟩]) (.cond (.tmp 139) (.seq (.region [⟨some 6, .mv (.const (.bool false)),
    none⟩]) .ret) .skip)) (.seq (.seq (.region [⟨some 17, .mv (.const (.int .i64 0)), none⟩]) (.block 2 (.loop (.seq (.seq (.region [⟨some 140, .mv (.tmp 17), none⟩, ⟨some 141, .mv
    (.tmp 13), none⟩, ⟨some 142, .len (.tmp 141), none⟩, ⟨some 143, .bin .lss (.tmp 140) (.tmp 142), none⟩]) (.cond (.tmp 143) .skip (.exit 2))) (.seq (.block 3 (.seq (.regionD
    [⟨some 146, .fld 1 (.tmp 15), none⟩, ⟨some 147, .load false 1 (.tmp 146), none⟩, ⟨some 148, .mv (.tmp 17), none⟩, ⟨some 149, .idx 1 (.tmp 147) (.tmp 148), none⟩, ⟨some 150,
    .load false 1 (.tmp 149), none⟩, ⟨some 151, .fld 0 (.tmp 7), none⟩, ⟨some 152, .load false 1 (.tmp 151), none⟩, ⟨some 153, .bin .mul (.const (.int .i64 2)) (.tmp 152), none⟩,
    ⟨some 154, .bin .add (.tmp 150) (.tmp 153), none⟩, ⟨some 155, .fld 1 (.tmp 15), none⟩, ⟨some 156, .load false 1 (.tmp 155), none⟩, ⟨some 157, .mv (.tmp 17), none⟩, ⟨some 158,
    .idx 1 (.tmp 156) (.tmp 157), none⟩, ⟨some 159, .load false 1 (.tmp 158), none⟩, ⟨some 160, .mv (.tmp 13), none⟩, ⟨some 161, .mv (.tmp 17), none⟩, ⟨some 162, .idx 3 (.tmp 160)
    (.tmp 161), none⟩, ⟨some 163, .fld 1 (.tmp 162), none⟩, ⟨some 164, .load false 1 (.tmp 163), none⟩, ⟨some 165, .bin .add (.tmp 159) (.tmp 164), none⟩, ⟨some 166, .bin .sub (.tmp
    165) (.const (.int .i64 1)), none⟩, ⟨some 167, .fld 1 (.tmp 7), none⟩, ⟨some 168, .load false 1 (.tmp 167), none⟩, ⟨some 169, .bin .mul (.const (.int .i64 2)) (.tmp 168), none⟩,
    ⟨some 170, .bin .add (.tmp 166) (.tmp 169), none⟩, ⟨some 18, .mv (.tmp 154), none⟩, ⟨some 19, .mv (.tmp 170), none⟩] [0, 1, 0, 7, 15, 0, 32, 96, 255, 0, 512, 0, 3584, 7680, 0,
    0, 49152, 114688, 245760, 523776, 1048064, 0, 2097152, 6291456, 16776704, 511, 67108863] [0, 1, 2, 3, 4, 5, 6, 7, 8, 9, 10, 11, 12, 13, 14, 15, 16, 17, 18, 19, 20, 21, 22, 23,
    24, 25, 26]) (.seq (.seq (.regionD [⟨some 171, .mv (.tmp 19), none⟩, ⟨some 172, .fld 1 (.tmp 15), none⟩, ⟨some 173, .load false 1 (.tmp 172), none⟩, ⟨some 174, .mv (.tmp 17),
    none⟩, ⟨some 175, .idx 1 (.tmp 173) (.tmp 174), none⟩, ⟨some 176, .load false 1 (.tmp 175), none⟩, ⟨some 177, .mv (.tmp 13), none⟩, ⟨some 178, .mv (.tmp 17), none⟩, ⟨some 179,
    .idx 3 (.tmp 177) (.tmp 178), none⟩, ⟨some 180, .load true 3 (.tmp 179), none⟩, ⟨some 181, .call (.func 14) [(.tmp 180)], none⟩, ⟨some 182, .bin .add (.tmp 176) (.tmp 181),
    none⟩, ⟨some 183, .bin .geq (.tmp 171) (.tmp 182), none⟩] [0, 0, 2, 0, 14, 30, 0, 0, 192, 448, 960, 2046, 4095] [0, 1, 2, 3, 4, 5, 6, 7, 8, 9, 10, 11, 12]) (.cond (.tmp 183)
    (.seq (.region [⟨some 6, .mv (.const (.bool false)), none⟩]) .ret) .skip)) (.seq (.region [⟨some 20, .mv (.const (.int .i64 0)), none⟩]) (.block 4 (.loop (.seq (.seq (.region
    [⟨some 184, .mv (.tmp 20), none⟩, ⟨some 185, .mv (.tmp 13), none⟩, ⟨some 186, .len (.tmp 185), none⟩, ⟨some 187, .bin .lss (.tmp 184) (.tmp 186), none⟩]) (.cond (.tmp 187) .skip
    (.exit 4))) (.seq (.block 5 (.seq (.seq (.regionD [⟨some 190, .mv (.tmp 20), none⟩, ⟨some 191, .mv (.tmp 17), none⟩, ⟨some 192, .bin .eql (.tmp 190) (.tmp 191), none⟩, ⟨some
    193, .mv (.tmp 192), none⟩, ⟨some 194, .mv (.tmp 13), some (193, false)⟩, ⟨some 195, .mv (.tmp 17), some (193, false)⟩, ⟨some 196, .idx 3 (.tmp 194) (.tmp 195), some (193,
    false)⟩, ⟨some 197, .load true 3 (.tmp 196), some (193, false)⟩, ⟨some 198, .mv (.tmp 13), some (193, false)⟩, ⟨some 199, .mv (.tmp 20), some (193, false)⟩, ⟨some 200, .idx 3
    (.tmp 198) (.tmp 199), some (193, false)⟩, ⟨some 201, .load true 3 (.tmp 200), some (193, false)⟩, ⟨some 202, .call (.func 15) [(.tmp 197), (.tmp 201)], some (193, false)⟩,
    ⟨some 203, .un .not (.tmp 202), some (193, false)⟩, ⟨some 204, .pick (.tmp 193) (.const (.bool true)) (.tmp 203), none⟩] [0, 0, 3, 7, 15, 15, 63, 127, 15, 15, 783, 1807, 4095,
    8191, 16383] [0, 1, 2, 3, 4, 5, 6, 7, 8, 9, 10, 11, 12, 13, 14]) (.cond (.tmp 204) (.exit 5) .skip)) (.seq (.region [⟨some 205, .mv (.tmp 18), none⟩, ⟨some 21, .mv (.tmp 205),
    none⟩]) (.block 6 (.loop (.seq (.seq (.region [⟨some 206, .mv (.tmp 21), none⟩, ⟨some 207, .mv (.tmp 19), none⟩, ⟨some 208, .bin .leq (.tmp 206) (.tmp 207), none⟩]) (.cond (.tmp
    208) .skip (.exit 6))) (.seq (.block 7 (.seq (.regionD [⟨some 211, .mv (.tmp 21), none⟩, ⟨some 212, .fld 1 (.tmp 15), none⟩, ⟨some 213, .load false 1 (.tmp 212), none⟩, ⟨some
    214, .mv (.tmp 20), none⟩, ⟨some 215, .idx 1 (.tmp 213) (.tmp 214), none⟩, ⟨some 216, .load false 1 (.tmp 215), none⟩, ⟨some 217, .bin .sub (.tmp 211) (.tmp 216), none⟩, ⟨some
    218, .fld 0 (.tmp 15), none⟩, ⟨some 219, .load false 1 (.tmp 218), none⟩, ⟨some 220, .call (.func 10) [(.tmp 217), (.tmp 219)], none⟩, ⟨some 221, .mv (.tmp 13), none⟩, ⟨some
    222, .mv (.tmp 20), none⟩, ⟨some 223, .idx 3 (.tmp 221) (.tmp 222), none⟩, ⟨some 224, .fld 1 (.tmp 223), none⟩, ⟨some 225, .load false 1 (.tmp 224), none⟩, ⟨some 226, .bin .lss
    (.tmp 220) (.tmp 225), none⟩] [0, 0, 2, 0, 14, 30, 63, 0, 128, 511, 0, 0, 3072, 7168, 15360, 32767] [0, 1, 2, 3, 4, 5, 6, 7, 8, 9, 10, 11, 12, 13, 14, 15]) (.cond (.tmp 226)
    (.seq (.region [⟨some 6, .mv (.const (.bool false)), none⟩]) .ret) .skip))) (.region [⟨some 209, .mv (.tmp 21), none⟩, ⟨some 210, .bin .add (.tmp 209) (.const (.int .i64 1)),
    none⟩, ⟨some 21, .mv (.tmp 210), none⟩])))))))) (.region [⟨some 188, .mv (.tmp 20), none⟩, ⟨some 189, .bin .add (.tmp 188) (.const (.int .i64 1)), none⟩, ⟨some 20, .mv (.tmp
    189), none⟩]))))))))) (.region [⟨some 144, .mv (.tmp 17), none⟩, ⟨some 145, .bin .add (.tmp 144) (.const (.int .i64 1)), none⟩, ⟨some 17, .mv (.tmp 145), none⟩])))))) (.seq
    (.region [⟨some 6, .mv (.const (.bool true)), none⟩]) .ret))))))))))))))))
theorem low3 : lowF Try.prog [123] Try.f3 = some (227, lc3.strip, [.tmp 6]) := by kernel_rfl
theorem fn3 : FnOk Try.prog 3 227 lc3 [.tmp 6] := ⟨Try.call3, [123], _, Try.func3, low3⟩
/-- moonpool/moonpooltop.sonarShown -/
def lc4 : LCode :=
  (.seq (.region [⟨some 0, .mv (.const (.bool false)), none⟩]) (.seq (.region [⟨some 6, .call (.func 16) [], none⟩, ⟨some 7, .call (.func 11) [(.tmp 6)], none⟩, ⟨some 5, .mv (.tmp
    7), none⟩, ⟨some 8, .ext (.tmp 5) 0, none⟩, ⟨some 9, .ext (.tmp 5) 1, none⟩, ⟨some 1, .alloc [(.int .i64 0), (.slice none 0 0)], none⟩, ⟨none, .store 2 (.tmp 1) (.tmp 8), none⟩,
    ⟨some 2, .mv (.tmp 9), none⟩]) (.seq (.region [⟨some 11, .call (.func 18) [], none⟩, ⟨some 12, .call (.func 17) [(.tmp 11)], none⟩, ⟨some 10, .mv (.tmp 12), none⟩, ⟨some 13,
    .ext (.tmp 10) 0, none⟩, ⟨some 14, .ext (.tmp 10) 1, none⟩, ⟨some 3, .mv (.tmp 13), none⟩, ⟨some 4, .mv (.tmp 14), none⟩]) (.seq (.region [⟨some 15, .mv (.tmp 2), none⟩, ⟨some
    16, .bin .eql (.tmp 15) (.const (.int .i64 0)), none⟩, ⟨some 17, .mv (.tmp 16), none⟩, ⟨some 18, .load true 2 (.tmp 1), some (17, true)⟩, ⟨some 19, .lit false 3 1 [(.const (.int
    .i64 0)), (.const (.int .i64 5)), (.const (.int .i64 0))], some (17, true)⟩, ⟨some 20, .build [(.int .i64 0), (.slice none 0 0)] [(0, 1, (.const (.int .i64 9))), (1, 1, (.tmp
    19))], some (17, true)⟩, ⟨some 21, .call (.func 19) [(.tmp 18), (.tmp 20)], some (17, true)⟩, ⟨some 22, .pick (.tmp 17) (.tmp 21) (.const (.bool false)), none⟩, ⟨some 23, .mv
    (.tmp 22), none⟩, ⟨some 24, .mv (.tmp 4), some (23, true)⟩, ⟨some 25, .bin .eql (.tmp 24) (.const (.int .i64 0)), some (23, true)⟩, ⟨some 26, .pick (.tmp 23) (.tmp 25) (.const
    (.bool false)), none⟩, ⟨some 27, .mv (.tmp 26), none⟩, ⟨some 28, .mv (.tmp 3), some (27, true)⟩, ⟨some 29, .lit false 3 1 [(.const (.int .i64 0))], some (27, true)⟩, ⟨some 30,
    .call (.func 20) [(.tmp 28), (.tmp 29)], some (27, true)⟩, ⟨some 31, .pick (.tmp 27) (.tmp 30) (.const (.bool false)), none⟩, ⟨some 0, .mv (.tmp 31), none⟩]) .ret))))
theorem low4 : lowF Try.prog [] Try.f4 = some (32, lc4.strip, [.tmp 0]) := by kernel_rfl
theorem fn4 : FnOk Try.prog 4 32 lc4 [.tmp 0] := ⟨Try.call4, [], _, Try.func4, low4⟩
/-- moonpool/moonpoolref04.LayersErr -/
def lc5 : LCode :=
  (.seq (.region [⟨some 2, .mv (.const (.int .i64 0)), none⟩]) (.seq (.region [⟨some 6, .mv (.tmp 0), none⟩, ⟨some 7, .call (.func 21) [(.tmp 6)], none⟩, ⟨some 5, .mv (.tmp 7),
    none⟩, ⟨some 8, .ext (.tmp 5) 0, none⟩, ⟨some 9, .ext (.tmp 5) 1, none⟩, ⟨some 3, .mv (.tmp 8), none⟩, ⟨some 4, .mv (.tmp 9), none⟩]) (.seq (.region [⟨some 10, .mv (.tmp 4),
    none⟩, ⟨some 2, .mv (.tmp 10), none⟩]) .ret)))
theorem low5 : lowF Try.prog [] Try.f5 = some (11, lc5.strip, [.tmp 2]) := by kernel_rfl
theorem fn5 : FnOk Try.prog 5 11 lc5 [.tmp 2] := ⟨Try.call5, [], _, Try.func5, low5⟩
/-- moonpool/moonpoolbase.Within -/
def lc6 : LCode :=
  (.seq (.region [⟨some 6, .mv (.const (.bool false)), none⟩]) (.seq (.region [⟨some 7, .mv (.tmp 1), none⟩, ⟨some 8, .mv (.tmp 0), none⟩, ⟨some 9, .bin .leq (.tmp 7) (.tmp 8),
    none⟩, ⟨some 10, .mv (.tmp 9), none⟩, ⟨some 11, .mv (.tmp 0), some (10, true)⟩, ⟨some 12, .mv (.tmp 2), some (10, true)⟩, ⟨some 13, .bin .leq (.tmp 11) (.tmp 12), some (10,
    true)⟩, ⟨some 14, .pick (.tmp 10) (.tmp 13) (.const (.bool false)), none⟩, ⟨some 6, .mv (.tmp 14), none⟩]) .ret))
theorem low6 : lowF Try.prog [] Try.f6 = some (15, lc6.strip, [.tmp 6]) := by kernel_rfl
theorem fn6 : FnOk Try.prog 6 15 lc6 [.tmp 6] := ⟨Try.call6, [], _, Try.func6, low6⟩
/-- moonpool/sonar.TimeIn -/
def lc7 : LCode :=
  (.seq (.region [⟨some 4, .alloc [(.int .i64 0), (.int .i64 0)], none⟩, ⟨some 5, .mv (.const (.int .i64 0)), none⟩]) (.seq (.seq (.region [⟨some 7, .mv (.tmp 0), none⟩, ⟨some 8,
    .mv (.tmp 1), none⟩, ⟨some 9, .call (.func 22) [(.tmp 7), (.tmp 8), (.const (.int .i64 100000))], none⟩, ⟨some 6, .mv (.tmp 9), none⟩]) (.seq (.region [⟨some 10, .mv (.tmp 6),
    none⟩, ⟨some 11, .bin .neq (.tmp 10) (.const (.int .i64 0)), none⟩]) (.cond (.tmp 11) (.seq (.region [⟨some 12, .build [(.int .i64 0), (.int .i64 0)] [], none⟩, ⟨some 13, .mv
    (.tmp 6), none⟩, ⟨none, .store 2 (.tmp 4) (.tmp 12), none⟩, ⟨some 5, .mv (.tmp 13), none⟩]) .ret) .skip))) (.seq (.region [⟨some 14, .mv (.tmp 0), none⟩, ⟨some 15, .mv (.tmp 1),
    none⟩, ⟨some 16, .call (.func 23) [(.tmp 14), (.tmp 15), (.func 24)], none⟩, ⟨some 17, .call (.func 25) [(.tmp 16)], none⟩, ⟨some 18, .mv (.tmp 0), none⟩, ⟨some 19, .mv (.tmp
    1), none⟩, ⟨some 20, .call (.func 23) [(.tmp 18), (.tmp 19), (.func 26)], none⟩, ⟨some 21, .call (.func 27) [(.tmp 20)], none⟩, ⟨some 22, .build [(.int .i64 0), (.int .i64 0)]
    [(0, 1, (.tmp 17)), (1, 1, (.tmp 21))], none⟩, ⟨none, .store 2 (.tmp 4) (.tmp 22), none⟩, ⟨some 5, .mv (.const (.int .i64 0)), none⟩]) .ret)))
theorem low7 : lowF Try.prog [] Try.f7 = some (23, lc7.strip, [.cell 4 true 2, .tmp 5]) := by kernel_rfl
theorem fn7 : FnOk Try.prog 7 23 lc7 [.cell 4 true 2, .tmp 5] := ⟨Try.call7, [], _, Try.func7, low7⟩
/-- moonpool/moonpoolref04.CopyLayers -/
def lc8 : LCode :=
  (.seq (.region [⟨some 2, .mv (.const (.slice none 0 0)), none⟩]) (.seq (.region [⟨some 3, .lit false 79 3 [], none⟩, ⟨some 4, .mv (.tmp 0), none⟩, ⟨some 5, .append false 79 3 24
    (.tmp 3) (.tmp 4), none⟩, ⟨some 2, .mv (.tmp 5), none⟩]) .ret))
theorem low8 : lowF Try.prog [] Try.f8 = some (6, lc8.strip, [.tmp 2]) := by kernel_rfl
theorem fn8 : FnOk Try.prog 8 6 lc8 [.tmp 2] := ⟨Try.call8, [], _, Try.func8, low8⟩
/-- moonpool/sonar.DepthIn -/
def lc9 : LCode :=
  (.seq (.region [⟨some 4, .alloc [(.int .i64 0), (.int .i64 0)], none⟩, ⟨some 5, .mv (.const (.int .i64 0)), none⟩]) (.seq (.seq (.region [⟨some 7, .mv (.tmp 0), none⟩, ⟨some 8,
    .mv (.tmp 1), none⟩, ⟨some 9, .call (.func 22) [(.tmp 7), (.tmp 8), (.const (.int .i64 100000))], none⟩, ⟨some 6, .mv (.tmp 9), none⟩]) (.seq (.region [⟨some 10, .mv (.tmp 6),
    none⟩, ⟨some 11, .bin .neq (.tmp 10) (.const (.int .i64 0)), none⟩]) (.cond (.tmp 11) (.seq (.region [⟨some 12, .build [(.int .i64 0), (.int .i64 0)] [], none⟩, ⟨some 13, .mv
    (.tmp 6), none⟩, ⟨none, .store 2 (.tmp 4) (.tmp 12), none⟩, ⟨some 5, .mv (.tmp 13), none⟩]) .ret) .skip))) (.seq (.region [⟨some 14, .mv (.tmp 0), none⟩, ⟨some 15, .mv (.tmp 1),
    none⟩, ⟨some 16, .call (.func 28) [(.tmp 14), (.tmp 15), (.func 26)], none⟩, ⟨some 17, .call (.func 25) [(.tmp 16)], none⟩, ⟨some 18, .mv (.tmp 0), none⟩, ⟨some 19, .mv (.tmp
    1), none⟩, ⟨some 20, .call (.func 28) [(.tmp 18), (.tmp 19), (.func 24)], none⟩, ⟨some 21, .call (.func 27) [(.tmp 20)], none⟩, ⟨some 22, .build [(.int .i64 0), (.int .i64 0)]
    [(0, 1, (.tmp 17)), (1, 1, (.tmp 21))], none⟩, ⟨none, .store 2 (.tmp 4) (.tmp 22), none⟩, ⟨some 5, .mv (.const (.int .i64 0)), none⟩]) .ret)))
theorem low9 : lowF Try.prog [] Try.f9 = some (23, lc9.strip, [.cell 4 true 2, .tmp 5]) := by kernel_rfl
theorem fn9 : FnOk Try.prog 9 23 lc9 [.cell 4 true 2, .tmp 5] := ⟨Try.call9, [], _, Try.func9, low9⟩
/-- moonpool/moonpoolbase.Mod -/
def lc10 : LCode :=
  (.seq (.region [⟨some 4, .mv (.const (.int .i64 0)), none⟩]) (.seq (.region [⟨some 5, .mv (.tmp 0), none⟩, ⟨some 6, .mv (.tmp 1), none⟩, ⟨some 7, .bin .rem (.tmp 5) (.tmp 6),
    none⟩, ⟨some 0, .mv (.tmp 7), none⟩]) (.seq (.seq (.region [⟨some 8, .mv (.tmp 0), none⟩, ⟨some 9, .bin .lss (.tmp 8) (.const (.int .i64 0)), none⟩]) (.cond (.tmp 9) (.region
    [⟨some 10, .mv (.tmp 0), none⟩, ⟨some 11, .mv (.tmp 1), none⟩, ⟨some 12, .bin .add (.tmp 10) (.tmp 11), none⟩, ⟨some 0, .mv (.tmp 12), none⟩]) .skip)) (.seq (.region [⟨some 13,
    .mv (.tmp 0), none⟩, ⟨some 4, .mv (.tmp 13), none⟩]) .ret))))
theorem low10 : lowF Try.prog [] Try.f10 = some (14, lc10.strip, [.tmp 4]) := by kernel_rfl
theorem fn10 : FnOk Try.prog 10 14 lc10 [.tmp 4] := ⟨Try.call10, [], _, Try.func10, low10⟩
/-- moonpool/sonar.ShortestTurns -/
def lc11 : LCode :=
  (.seq (.region [⟨some 2, .alloc [(.int .i64 0), (.slice none 0 0)], none⟩, ⟨some 3, .mv (.const (.int .i64 0)), none⟩]) (.seq (.region [⟨some 11, .mv (.tmp 0), none⟩, ⟨some 12,
    .call (.func 29) [(.tmp 11)], none⟩, ⟨some 10, .mv (.tmp 12), none⟩, ⟨some 13, .ext (.tmp 10) 0, none⟩, ⟨some 14, .ext (.tmp 10) 1, none⟩, ⟨some 15, .ext (.tmp 10) 2, none⟩,
    ⟨some 4, .mv (.tmp 13), none⟩, ⟨some 5, .mv (.tmp 14), none⟩, ⟨some 6, .mv (.tmp 15), none⟩]) (.seq (.seq (.region [⟨some 16, .mv (.tmp 6), none⟩, ⟨some 17, .bin .neq (.tmp 16)
    (.const (.int .i64 0)), none⟩]) (.cond (.tmp 17) (.seq (.region [⟨some 18, .build [(.int .i64 0), (.slice none 0 0)] [], none⟩, ⟨some 19, .mv (.tmp 6), none⟩, ⟨none, .store 2
    (.tmp 2) (.tmp 18), none⟩, ⟨some 3, .mv (.tmp 19), none⟩]) .ret) .skip)) (.seq (.seq (.region [⟨some 20, .mv (.tmp 5), none⟩, ⟨some 7, .mv (.tmp 20), none⟩]) (.block 0 (.loop
    (.seq (.seq (.region [⟨some 21, .mv (.tmp 7), none⟩, ⟨some 22, .bin .leq (.tmp 21) (.const (.int .i64 40)), none⟩]) (.cond (.tmp 22) .skip (.exit 0))) (.seq (.block 1 (.seq
    (.region [⟨some 26, .mv (.tmp 0), none⟩, ⟨some 27, .mv (.tmp 7), none⟩, ⟨some 28, .call (.func 30) [(.tmp 26), (.tmp 27)], none⟩, ⟨some 25, .mv (.tmp 28), none⟩, ⟨some 29, .ext
    (.tmp 25) 0, none⟩, ⟨some 30, .ext (.tmp 25) 1, none⟩, ⟨some 8, .alloc [(.int .i64 0), (.slice none 0 0)], none⟩, ⟨none, .store 2 (.tmp 8) (.tmp 29), none⟩, ⟨some 9, .mv (.tmp
    30), none⟩]) (.seq (.region [⟨some 31, .mv (.tmp 9), none⟩, ⟨some 32, .bin .eql (.tmp 31) (.const (.int .i64 0)), none⟩]) (.cond (.tmp 32) (.seq (.region [⟨some 33, .load true 2
    (.tmp 8), none⟩, ⟨none, .store 2 (.tmp 2) (.tmp 33), none⟩, ⟨some 3, .mv (.const (.int .i64 0)), none⟩]) .ret) .skip)))) (.region [⟨some 23, .mv (.tmp 7), none⟩, ⟨some 24, .bin
    .add (.tmp 23) (.const (.int .i64 1)), none⟩, ⟨some 7, .mv (.tmp 24), none⟩])))))) (.seq (.region [⟨some 34, .build [(.int .i64 0), (.slice none 0 0)] [], none⟩, ⟨none, .store 2
    (.tmp 2) (.tmp 34), none⟩, ⟨some 3, .mv (.const (.int .i64 12)), none⟩]) .ret)))))
theorem low11 : lowF Try.prog [] Try.f11 = some (35, lc11.strip, [.cell 2 true 2, .tmp 3]) := by kernel_rfl
theorem fn11 : FnOk Try.prog 11 35 lc11 [.cell 2 true 2, .tmp 3] := ⟨Try.call11, [], _, Try.func11, low11⟩
/-- moonpool/moonpoolref04.CopyDevices -/
def lc12 : LCode :=
  (.seq (.region [⟨some 2, .mv (.const (.slice none 0 0)), none⟩]) (.seq (.region [⟨some 3, .lit false 36 3 [], none⟩, ⟨some 4, .mv (.tmp 0), none⟩, ⟨some 5, .append false 36 3 24
    (.tmp 3) (.tmp 4), none⟩, ⟨some 2, .mv (.tmp 5), none⟩]) .ret))
theorem low12 : lowF Try.prog [] Try.f12 = some (6, lc12.strip, [.tmp 2]) := by kernel_rfl
theorem fn12 : FnOk Try.prog 12 6 lc12 [.tmp 2] := ⟨Try.call12, [], _, Try.func12, low12⟩
/-- moonpool/moonpoolref04.TurnsErr -/
def lc13 : LCode :=
  (.seq (.region [⟨some 3, .boxS (.tmp 1), none⟩, ⟨some 4, .mv (.const (.int .i64 0)), none⟩]) (.seq (.seq (.region [⟨some 7, .fld 0 (.tmp 3), none⟩, ⟨some 8, .load false 1 (.tmp
    7), none⟩, ⟨some 9, .call (.func 31) [(.tmp 8)], none⟩, ⟨some 5, .mv (.tmp 9), none⟩]) (.seq (.region [⟨some 10, .mv (.tmp 5), none⟩, ⟨some 11, .bin .neq (.tmp 10) (.const (.int
    .i64 0)), none⟩]) (.cond (.tmp 11) (.seq (.region [⟨some 12, .mv (.tmp 5), none⟩, ⟨some 4, .mv (.tmp 12), none⟩]) .ret) .skip))) (.seq (.seq (.region [⟨some 13, .fld 1 (.tmp 3),
    none⟩, ⟨some 14, .load false 1 (.tmp 13), none⟩, ⟨some 15, .len (.tmp 14), none⟩, ⟨some 16, .mv (.tmp 0), none⟩, ⟨some 17, .len (.tmp 16), none⟩, ⟨some 18, .bin .neq (.tmp 15)
    (.tmp 17), none⟩]) (.cond (.tmp 18) (.seq (.region [⟨some 4, .mv (.const (.int .i64 10)), none⟩]) .ret) .skip)) (.seq (.seq (.region [⟨some 6, .mv (.const (.int .i64 0)),
    none⟩]) (.block 0 (.loop (.seq (.seq (.region [⟨some 19, .mv (.tmp 6), none⟩, ⟨some 20, .mv (.tmp 0), none⟩, ⟨some 21, .len (.tmp 20), none⟩, ⟨some 22, .bin .lss (.tmp 19) (.tmp
    21), none⟩]) (.cond (.tmp 22) .skip (.exit 0))) (.seq (.block 1 (.seq (.regionD [⟨some 25, .fld 1 (.tmp 3), none⟩, ⟨some 26, .load false 1 (.tmp 25), none⟩, ⟨some 27, .mv (.tmp
    6), none⟩, ⟨some 28, .idx 1 (.tmp 26) (.tmp 27), none⟩, ⟨some 29, .load false 1 (.tmp 28), none⟩, ⟨some 30, .fld 0 (.tmp 3), none⟩, ⟨some 31, .load false 1 (.tmp 30), none⟩,
    ⟨some 32, .bin .sub (.tmp 31) (.const (.int .i64 1)), none⟩, ⟨some 33, .call (.func 6) [(.tmp 29), (.const (.int .i64 0)), (.tmp 32)], none⟩, ⟨some 34, .un .not (.tmp 33),
    none⟩] [0, 1, 0, 7, 15, 0, 32, 96, 255, 511] [0, 1, 2, 3, 4, 5, 6, 7, 8, 9]) (.cond (.tmp 34) (.seq (.region [⟨some 4, .mv (.const (.int .i64 2)), none⟩]) .ret) .skip)))
    (.region [⟨some 23, .mv (.tmp 6), none⟩, ⟨some 24, .bin .add (.tmp 23) (.const (.int .i64 1)), none⟩, ⟨some 6, .mv (.tmp 24), none⟩])))))) (.seq (.region [⟨some 4, .mv (.const
    (.int .i64 0)), none⟩]) .ret)))))
theorem low13 : lowF Try.prog [3] Try.f13 = some (35, lc13.strip, [.tmp 4]) := by kernel_rfl
theorem fn13 : FnOk Try.prog 13 35 lc13 [.tmp 4] := ⟨Try.call13, [3], _, Try.func13, low13⟩
/-- moonpool/moonpoolref04.Window -/
def lc14 : LCode :=
  (.seq (.region [⟨some 1, .boxS (.tmp 0), none⟩, ⟨some 2, .mv (.const (.int .i64 0)), none⟩]) (.seq (.region [⟨some 3, .fld 1 (.tmp 1), none⟩, ⟨some 4, .load false 1 (.tmp 3),
    none⟩, ⟨some 5, .fld 2 (.tmp 1), none⟩, ⟨some 6, .load false 1 (.tmp 5), none⟩, ⟨some 7, .bin .add (.tmp 4) (.tmp 6), none⟩, ⟨some 2, .mv (.tmp 7), none⟩]) .ret))
theorem low14 : lowF Try.prog [1] Try.f14 = some (8, lc14.strip, [.tmp 2]) := by kernel_rfl
theorem fn14 : FnOk Try.prog 14 8 lc14 [.tmp 2] := ⟨Try.call14, [1], _, Try.func14, low14⟩
/-- moonpool/moonpoolref04.Disturb -/
def lc15 : LCode :=
  (.seq (.region [⟨some 2, .boxS (.tmp 0), none⟩, ⟨some 3, .boxS (.tmp 1), none⟩, ⟨some 4, .mv (.const (.bool false)), none⟩]) (.seq (.region [⟨some 5, .fld 0 (.tmp 2), none⟩, ⟨some
    6, .load false 1 (.tmp 5), none⟩, ⟨some 7, .fld 0 (.tmp 3), none⟩, ⟨some 8, .load false 1 (.tmp 7), none⟩, ⟨some 9, .bin .sub (.tmp 6) (.tmp 8), none⟩, ⟨some 10, .call (.func
    32) [(.tmp 9)], none⟩, ⟨some 11, .bin .leq (.tmp 10) (.const (.int .i64 1)), none⟩, ⟨some 4, .mv (.tmp 11), none⟩]) .ret))
theorem low15 : lowF Try.prog [2, 3] Try.f15 = some (12, lc15.strip, [.tmp 4]) := by kernel_rfl
theorem fn15 : FnOk Try.prog 15 12 lc15 [.tmp 4] := ⟨Try.call15, [2, 3], _, Try.func15, low15⟩
/-- moonpool/moonpoollaw04.Devices -/
def lc16 : LCode :=
  (.seq (.region [⟨some 0, .mv (.const (.slice none 0 0)), none⟩]) (.seq (.region [⟨some 1, .build [(.int .i64 0), (.int .i64 0), (.int .i64 0)] [(0, 1, (.const (.int .i64 1))), (1,
    1, (.const (.int .i64 2))), (2, 1, (.const (.int .i64 3)))], none⟩, ⟨some 2, .build [(.int .i64 0), (.int .i64 0), (.int .i64 0)] [(0, 1, (.const (.int .i64 2))), (1, 1, (.const
    (.int .i64 1))), (2, 1, (.const (.int .i64 3)))], none⟩, ⟨some 3, .build [(.int .i64 0), (.int .i64 0), (.int .i64 0)] [(0, 1, (.const (.int .i64 4))), (1, 1, (.const (.int .i64
    2))), (2, 1, (.const (.int .i64 2)))], none⟩, ⟨some 4, .lit false 36 3 [(.tmp 1), (.tmp 2), (.tmp 3)], none⟩, ⟨some 0, .mv (.tmp 4), none⟩]) .ret))
theorem low16 : lowF Try.prog [] Try.f16 = some (5, lc16.strip, [.tmp 0]) := by kernel_rfl
theorem fn16 : FnOk Try.prog 16 5 lc16 [.tmp 0] := ⟨Try.call16, [], _, Try.func16, low16⟩
/-- moonpool/sonar.OddRays -/
def lc17 : LCode :=
  (.seq (.region [⟨some 1, .boxS (.tmp 0), none⟩, ⟨some 2, .mv (.const (.slice none 0 0)), none⟩, ⟨some 3, .mv (.const (.int .i64 0)), none⟩]) (.seq (.seq (.region [⟨some 8, .load
    true 3 (.tmp 1), none⟩, ⟨some 9, .call (.func 33) [(.tmp 8)], none⟩, ⟨some 4, .mv (.tmp 9), none⟩]) (.seq (.region [⟨some 10, .mv (.tmp 4), none⟩, ⟨some 11, .bin .neq (.tmp 10)
    (.const (.int .i64 0)), none⟩]) (.cond (.tmp 11) (.seq (.region [⟨some 12, .mv (.tmp 4), none⟩, ⟨some 2, .mv (.const (.slice none 0 0)), none⟩, ⟨some 3, .mv (.tmp 12), none⟩])
    .ret) .skip))) (.seq (.region [⟨some 14, .fld 2 (.tmp 1), none⟩, ⟨some 15, .load false 1 (.tmp 14), none⟩, ⟨some 16, .len (.tmp 15), none⟩, ⟨some 17, .mkfn 35 [(.tmp 1)], none⟩,
    ⟨some 18, .call (.func 34) [(.tmp 16), (.tmp 17)], none⟩, ⟨some 13, .mv (.tmp 18), none⟩, ⟨some 19, .ext (.tmp 13) 0, none⟩, ⟨some 20, .ext (.tmp 13) 1, none⟩, ⟨some 21, .ext
    (.tmp 13) 2, none⟩, ⟨some 5, .mv (.tmp 19), none⟩, ⟨some 6, .mv (.tmp 20), none⟩, ⟨some 7, .mv (.tmp 21), none⟩]) (.seq (.region [⟨some 22, .mv (.tmp 5), none⟩, ⟨some 2, .mv
    (.tmp 22), none⟩, ⟨some 3, .mv (.const (.int .i64 0)), none⟩]) .ret))))
theorem low17 : lowF Try.prog [1] Try.f17 = some (23, lc17.strip, [.tmp 2, .tmp 3]) := by kernel_rfl
theorem fn17 : FnOk Try.prog 17 23 lc17 [.tmp 2, .tmp 3] := ⟨Try.call17, [1], _, Try.func17, low17⟩
/-- moonpool/moonpoollaw04.Scene -/
def lc18 : LCode :=
  (.seq (.region [⟨some 0, .alloc [(.int .i64 0), (.int .i64 0), (.slice none 0 0)], none⟩]) (.seq (.region [⟨some 1, .call (.func 38) [(.const (.int .i64 0)), (.const (.int .i64
    0)), (.const (.int .i64 3)), (.const (.int .i64 1)), (.const (.bool true))], none⟩, ⟨some 2, .call (.func 38) [(.const (.int .i64 0)), (.const (.int .i64 1)), (.const (.int .i64
    3)), (.const (.int .i64 1)), (.const (.bool false))], none⟩, ⟨some 3, .lit false 76 5 [(.tmp 1), (.tmp 2)], none⟩, ⟨some 4, .build [(.int .i64 0), (.int .i64 0), (.slice none 0
    0)] [(0, 1, (.const (.int .i64 4))), (1, 1, (.const (.int .i64 2))), (2, 1, (.tmp 3))], none⟩, ⟨none, .store 3 (.tmp 0) (.tmp 4), none⟩]) .ret))
theorem low18 : lowF Try.prog [] Try.f18 = some (5, lc18.strip, [.cell 0 true 3]) := by kernel_rfl
theorem fn18 : FnOk Try.prog 18 5 lc18 [.cell 0 true 3] := ⟨Try.call18, [], _, Try.func18, low18⟩
/-- moonpool/moonpoolref04.SameTurns -/
def lc19 : LCode :=
  (.seq (.region [⟨some 2, .boxS (.tmp 0), none⟩, ⟨some 3, .boxS (.tmp 1), none⟩, ⟨some 4, .mv (.const (.bool false)), none⟩]) (.seq (.region [⟨some 5, .fld 0 (.tmp 2), none⟩, ⟨some
    6, .load false 1 (.tmp 5), none⟩, ⟨some 7, .fld 0 (.tmp 3), none⟩, ⟨some 8, .load false 1 (.tmp 7), none⟩, ⟨some 9, .bin .eql (.tmp 6) (.tmp 8), none⟩, ⟨some 10, .mv (.tmp 9),
    none⟩, ⟨some 11, .fld 1 (.tmp 2), some (10, true)⟩, ⟨some 12, .load false 1 (.tmp 11), some (10, true)⟩, ⟨some 13, .fld 1 (.tmp 3), some (10, true)⟩, ⟨some 14, .load false 1
    (.tmp 13), some (10, true)⟩, ⟨some 15, .call (.func 20) [(.tmp 12), (.tmp 14)], some (10, true)⟩, ⟨some 16, .pick (.tmp 10) (.tmp 15) (.const (.bool false)), none⟩, ⟨some 4, .mv
    (.tmp 16), none⟩]) .ret))
theorem low19 : lowF Try.prog [2, 3] Try.f19 = some (17, lc19.strip, [.tmp 4]) := by kernel_rfl
theorem fn19 : FnOk Try.prog 19 17 lc19 [.tmp 4] := ⟨Try.call19, [2, 3], _, Try.func19, low19⟩
/-- moonpool/moonpoolbase.Ints -/
def lc20 : LCode :=
  (.seq (.region [⟨some 4, .mv (.const (.bool false)), none⟩]) (.seq (.seq (.region [⟨some 6, .mv (.tmp 0), none⟩, ⟨some 7, .len (.tmp 6), none⟩, ⟨some 8, .mv (.tmp 1), none⟩, ⟨some
    9, .len (.tmp 8), none⟩, ⟨some 10, .bin .neq (.tmp 7) (.tmp 9), none⟩]) (.cond (.tmp 10) (.seq (.region [⟨some 4, .mv (.const (.bool false)), none⟩]) .ret) .skip)) (.seq (.seq
    (.region [⟨some 5, .mv (.const (.int .i64 0)), none⟩]) (.block 0 (.loop (.seq (.seq (.region [⟨some 11, .mv (.tmp 5), none⟩, ⟨some 12, .mv (.tmp 0), none⟩, ⟨some 13, .len (.tmp
    12), none⟩, ⟨some 14, .bin .lss (.tmp 11) (.tmp 13), none⟩]) (.cond (.tmp 14) .skip (.exit 0))) (.seq (.block 1 (.seq (.regionD [⟨some 17, .mv (.tmp 0), none⟩, ⟨some 18, .mv
    (.tmp 5), none⟩, ⟨some 19, .idx 1 (.tmp 17) (.tmp 18), none⟩, ⟨some 20, .load false 1 (.tmp 19), none⟩, ⟨some 21, .mv (.tmp 1), none⟩, ⟨some 22, .mv (.tmp 5), none⟩, ⟨some 23,
    .idx 1 (.tmp 21) (.tmp 22), none⟩, ⟨some 24, .load false 1 (.tmp 23), none⟩, ⟨some 25, .bin .neq (.tmp 20) (.tmp 24), none⟩] [0, 0, 3, 7, 0, 0, 48, 112, 255] [0, 1, 2, 3, 4, 5,
    6, 7, 8]) (.cond (.tmp 25) (.seq (.region [⟨some 4, .mv (.const (.bool false)), none⟩]) .ret) .skip))) (.region [⟨some 15, .mv (.tmp 5), none⟩, ⟨some 16, .bin .add (.tmp 15)
    (.const (.int .i64 1)), none⟩, ⟨some 5, .mv (.tmp 16), none⟩])))))) (.seq (.region [⟨some 4, .mv (.const (.bool true)), none⟩]) .ret))))
theorem low20 : lowF Try.prog [] Try.f20 = some (26, lc20.strip, [.tmp 4]) := by kernel_rfl
theorem fn20 : FnOk Try.prog 20 26 lc20 [.tmp 4] := ⟨Try.call20, [], _, Try.func20, low20⟩
/-- moonpool/moonpoolref04.CheckLayers -/
def lc21 : LCode :=
  (.seq (.region [⟨some 2, .mv (.const (.int .i64 0)), none⟩, ⟨some 3, .mv (.const (.int .i64 0)), none⟩]) (.seq (.seq (.region [⟨some 6, .mv (.tmp 0), none⟩, ⟨some 7, .len (.tmp
    6), none⟩, ⟨some 8, .bin .eql (.tmp 7) (.const (.int .i64 0)), none⟩]) (.cond (.tmp 8) (.seq (.region [⟨some 2, .mv (.const (.int .i64 0)), none⟩, ⟨some 3, .mv (.const (.int
    .i64 10)), none⟩]) .ret) .skip)) (.seq (.seq (.region [⟨some 9, .mv (.tmp 0), none⟩, ⟨some 10, .len (.tmp 9), none⟩, ⟨some 11, .bin .gtr (.tmp 10) (.const (.int .i64 6)),
    none⟩]) (.cond (.tmp 11) (.seq (.region [⟨some 2, .mv (.const (.int .i64 0)), none⟩, ⟨some 3, .mv (.const (.int .i64 8)), none⟩]) .ret) .skip)) (.seq (.seq (.region [⟨some 4,
    .mv (.const (.int .i64 0)), none⟩]) (.block 0 (.loop (.seq (.seq (.region [⟨some 12, .mv (.tmp 4), none⟩, ⟨some 13, .mv (.tmp 0), none⟩, ⟨some 14, .len (.tmp 13), none⟩, ⟨some
    15, .bin .lss (.tmp 12) (.tmp 14), none⟩]) (.cond (.tmp 15) .skip (.exit 0))) (.seq (.block 1 (.seq (.region [⟨some 18, .mv (.tmp 0), none⟩, ⟨some 19, .mv (.tmp 4), none⟩, ⟨some
    20, .idx 3 (.tmp 18) (.tmp 19), none⟩, ⟨some 21, .fld 1 (.tmp 20), none⟩, ⟨some 22, .load true 2 (.tmp 21), none⟩, ⟨some 5, .alloc [(.int .i64 0), (.int .i64 0)], none⟩, ⟨none,
    .store 2 (.tmp 5) (.tmp 22), none⟩]) (.seq (.seq (.region [⟨some 23, .mv (.tmp 0), none⟩, ⟨some 24, .mv (.tmp 4), none⟩, ⟨some 25, .idx 3 (.tmp 23) (.tmp 24), none⟩, ⟨some 26,
    .fld 0 (.tmp 25), none⟩, ⟨some 27, .load false 1 (.tmp 26), none⟩, ⟨some 28, .call (.func 6) [(.tmp 27), (.const (.int .i64 1)), (.const (.int .i64 10000))], none⟩, ⟨some 29,
    .un .not (.tmp 28), none⟩, ⟨some 30, .mv (.tmp 29), none⟩, ⟨some 31, .fld 0 (.tmp 5), some (30, false)⟩, ⟨some 32, .load false 1 (.tmp 31), some (30, false)⟩, ⟨some 33, .call
    (.func 6) [(.tmp 32), (.const (.int .i64 1)), (.const (.int .i64 100))], some (30, false)⟩, ⟨some 34, .un .not (.tmp 33), some (30, false)⟩, ⟨some 35, .pick (.tmp 30) (.const
    (.bool true)) (.tmp 34), none⟩, ⟨some 36, .mv (.tmp 35), none⟩, ⟨some 37, .fld 1 (.tmp 5), some (36, false)⟩, ⟨some 38, .load false 1 (.tmp 37), some (36, false)⟩, ⟨some 39,
    .call (.func 6) [(.tmp 38), (.const (.int .i64 1)), (.const (.int .i64 100))], some (36, false)⟩, ⟨some 40, .un .not (.tmp 39), some (36, false)⟩, ⟨some 41, .pick (.tmp 36)
    (.const (.bool true)) (.tmp 40), none⟩]) (.cond (.tmp 41) (.seq (.region [⟨some 42, .mv (.tmp 4), none⟩, ⟨some 2, .mv (.tmp 42), none⟩, ⟨some 3, .mv (.const (.int .i64 2)),
    none⟩]) .ret) .skip)) (.seq (.region [⟨some 43, .fld 0 (.tmp 5), none⟩, ⟨some 44, .load false 1 (.tmp 43), none⟩, ⟨some 45, .fld 1 (.tmp 5), none⟩, ⟨some 46, .load false 1 (.tmp
    45), none⟩, ⟨some 47, .bin .gtr (.tmp 44) (.tmp 46), none⟩]) (.cond (.tmp 47) (.seq (.region [⟨some 48, .mv (.tmp 4), none⟩, ⟨some 2, .mv (.tmp 48), none⟩, ⟨some 3, .mv (.const
    (.int .i64 9)), none⟩]) .ret) .skip))))) (.region [⟨some 16, .mv (.tmp 4), none⟩, ⟨some 17, .bin .add (.tmp 16) (.const (.int .i64 1)), none⟩, ⟨some 4, .mv (.tmp 17),
    none⟩])))))) (.seq (.region [⟨some 2, .mv (.const (.int .i64 0)), none⟩, ⟨some 3, .mv (.const (.int .i64 0)), none⟩]) .ret)))))
theorem low21 : lowF Try.prog [] Try.f21 = some (49, lc21.strip, [.tmp 2, .tmp 3]) := by kernel_rfl
theorem fn21 : FnOk Try.prog 21 49 lc21 [.tmp 2, .tmp 3] := ⟨Try.call21, [], _, Try.func21, low21⟩
/-- moonpool/sonar.layersErr -/
def lc22 : LCode :=
  (.seq (.region [⟨some 6, .mv (.const (.int .i64 0)), none⟩]) (.seq (.region [⟨some 10, .mv (.tmp 0), none⟩, ⟨some 11, .call (.func 39) [(.tmp 10)], none⟩, ⟨some 9, .mv (.tmp 11),
    none⟩, ⟨some 12, .ext (.tmp 9) 0, none⟩, ⟨some 13, .ext (.tmp 9) 1, none⟩, ⟨some 7, .mv (.tmp 12), none⟩, ⟨some 8, .mv (.tmp 13), none⟩]) (.seq (.region [⟨some 14, .mv (.tmp 8),
    none⟩, ⟨some 15, .mv (.tmp 1), none⟩, ⟨some 16, .mv (.tmp 2), none⟩, ⟨some 17, .call (.func 42) [(.tmp 15), (.const (.int .i64 0)), (.tmp 16)], none⟩, ⟨some 18, .call (.func 41)
    [(.tmp 17), (.const (.int .i64 2))], none⟩, ⟨some 19, .lit false 29 1 [(.tmp 14), (.tmp 18)], none⟩, ⟨some 20, .call (.func 40) [(.tmp 19)], none⟩, ⟨some 6, .mv (.tmp 20),
    none⟩]) .ret)))
theorem low22 : lowF Try.prog [] Try.f22 = some (21, lc22.strip, [.tmp 6]) := by kernel_rfl
theorem fn22 : FnOk Try.prog 22 21 lc22 [.tmp 6] := ⟨Try.call22, [], _, Try.func22, low22⟩
/-- moonpool/sonar.late -/
def lc23 : LCode :=
  (.seq (.region [⟨some 6, .alloc [(.int .i64 0), (.int .i64 0)], none⟩]) (.seq (.region [⟨some 11, .build [(.int .i64 0), (.int .i64 0)] [(0, 1, (.const (.int .i64 0))), (1, 1,
    (.const (.int .i64 1)))], none⟩, ⟨some 7, .alloc [(.int .i64 0), (.int .i64 0)], none⟩, ⟨none, .store 2 (.tmp 7) (.tmp 11), none⟩]) (.seq (.seq (.region [⟨some 12, .mv (.tmp 0),
    none⟩, ⟨some 13, .len (.tmp 12), none⟩, ⟨some 14, .mv (.const (.int .i64 0)), none⟩]) (.block 0 (.loop (.seq (.region [⟨some 15, .bin .lss (.tmp 14) (.tmp 13), none⟩]) (.seq
    (.cond (.tmp 15) .skip (.exit 0)) (.seq (.block 1 (.seq (.region [⟨some 16, .mv (.tmp 14), none⟩, ⟨some 17, .idx 3 (.tmp 12) (.tmp 14), none⟩, ⟨some 18, .load true 3 (.tmp 17),
    none⟩, ⟨some 9, .alloc [(.int .i64 0), (.int .i64 0), (.int .i64 0)], none⟩, ⟨some 8, .mv (.tmp 16), none⟩, ⟨none, .store 3 (.tmp 9) (.tmp 18), none⟩]) (.seq (.region [⟨some 19,
    .fld 0 (.tmp 9), none⟩, ⟨some 20, .load false 1 (.tmp 19), none⟩, ⟨some 10, .mv (.tmp 20), none⟩]) (.seq (.seq (.region [⟨some 21, .mv (.tmp 8), none⟩, ⟨some 22, .mv (.tmp 0),
    none⟩, ⟨some 23, .len (.tmp 22), none⟩, ⟨some 24, .bin .sub (.tmp 23) (.const (.int .i64 1)), none⟩, ⟨some 25, .bin .eql (.tmp 21) (.tmp 24), none⟩]) (.cond (.tmp 25) (.region
    [⟨some 26, .mv (.tmp 1), none⟩, ⟨some 10, .mv (.tmp 26), none⟩]) .skip)) (.seq (.region [⟨some 27, .mv (.tmp 10), none⟩, ⟨some 28, .mv (.tmp 1), none⟩, ⟨some 29, .mm false
    [(.tmp 27), (.tmp 28)], none⟩, ⟨some 10, .mv (.tmp 29), none⟩]) (.seq (.regionD [⟨some 30, .load true 2 (.tmp 7), none⟩, ⟨some 31, .mv (.tmp 10), none⟩, ⟨some 32, .mv (.tmp 2),
    none⟩, ⟨some 33, .load true 3 (.tmp 9), none⟩, ⟨some 34, .call (.tmp 32) [(.tmp 33)], none⟩, ⟨some 35, .build [(.int .i64 0), (.int .i64 0)] [(0, 1, (.tmp 31)), (1, 1, (.tmp
    34))], none⟩, ⟨some 36, .call (.func 43) [(.tmp 30), (.tmp 35)], none⟩, ⟨none, .store 2 (.tmp 7) (.tmp 36), none⟩] [0, 0, 0, 0, 12, 30, 63, 127] [0, 1, 2, 3, 4, 5, 6, 7])
    (.region [⟨some 37, .mv (.tmp 1), none⟩, ⟨some 38, .mv (.tmp 10), none⟩, ⟨some 39, .bin .sub (.tmp 37) (.tmp 38), none⟩, ⟨some 1, .mv (.tmp 39), none⟩]))))))) (.region [⟨some
    40, .bin .add (.tmp 14) (.const (.int .i64 1)), none⟩, ⟨some 14, .mv (.tmp 40), none⟩]))))))) (.seq (.region [⟨some 41, .load true 2 (.tmp 7), none⟩, ⟨none, .store 2 (.tmp 6)
    (.tmp 41), none⟩]) .ret))))
theorem low23 : lowF Try.prog [] Try.f23 = some (42, lc23.strip, [.cell 6 true 2]) := by kernel_rfl
theorem fn23 : FnOk Try.prog 23 42 lc23 [.cell 6 true 2] := ⟨Try.call23, [], _, Try.func23, low23⟩
/-- moonpool/sonar.high -/
def lc24 : LCode :=
  (.seq (.region [⟨some 1, .boxS (.tmp 0), none⟩, ⟨some 2, .mv (.const (.int .i64 0)), none⟩]) (.seq (.region [⟨some 3, .fld 1 (.tmp 1), none⟩, ⟨some 4, .fld 1 (.tmp 3), none⟩,
    ⟨some 5, .load false 1 (.tmp 4), none⟩, ⟨some 2, .mv (.tmp 5), none⟩]) .ret))
theorem low24 : lowF Try.prog [1] Try.f24 = some (6, lc24.strip, [.tmp 2]) := by kernel_rfl
theorem fn24 : FnOk Try.prog 24 6 lc24 [.tmp 2] := ⟨Try.call24, [1], _, Try.func24, low24⟩
/-- (moonpool/sonar.quotient).floor -/
def lc25 : LCode :=
  (.seq (.region [⟨some 1, .boxS (.tmp 0), none⟩, ⟨some 2, .mv (.const (.int .i64 0)), none⟩]) (.seq (.region [⟨some 3, .fld 0 (.tmp 1), none⟩, ⟨some 4, .load false 1 (.tmp 3),
    none⟩, ⟨some 5, .fld 1 (.tmp 1), none⟩, ⟨some 6, .load false 1 (.tmp 5), none⟩, ⟨some 7, .bin .quo (.tmp 4) (.tmp 6), none⟩, ⟨some 2, .mv (.tmp 7), none⟩]) .ret))
theorem low25 : lowF Try.prog [1] Try.f25 = some (8, lc25.strip, [.tmp 2]) := by kernel_rfl
theorem fn25 : FnOk Try.prog 25 8 lc25 [.tmp 2] := ⟨Try.call25, [1], _, Try.func25, low25⟩
/-- moonpool/sonar.low -/
def lc26 : LCode :=
  (.seq (.region [⟨some 1, .boxS (.tmp 0), none⟩, ⟨some 2, .mv (.const (.int .i64 0)), none⟩]) (.seq (.region [⟨some 3, .fld 1 (.tmp 1), none⟩, ⟨some 4, .fld 0 (.tmp 3), none⟩,
    ⟨some 5, .load false 1 (.tmp 4), none⟩, ⟨some 2, .mv (.tmp 5), none⟩]) .ret))
theorem low26 : lowF Try.prog [1] Try.f26 = some (6, lc26.strip, [.tmp 2]) := by kernel_rfl
theorem fn26 : FnOk Try.prog 26 6 lc26 [.tmp 2] := ⟨Try.call26, [1], _, Try.func26, low26⟩
/-- (moonpool/sonar.quotient).ceil -/
def lc27 : LCode :=
  (.seq (.region [⟨some 1, .boxS (.tmp 0), none⟩, ⟨some 2, .mv (.const (.int .i64 0)), none⟩]) (.seq (.region [⟨some 3, .fld 0 (.tmp 1), none⟩, ⟨some 4, .load false 1 (.tmp 3),
    none⟩, ⟨some 5, .fld 1 (.tmp 1), none⟩, ⟨some 6, .load false 1 (.tmp 5), none⟩, ⟨some 7, .bin .add (.tmp 4) (.tmp 6), none⟩, ⟨some 8, .bin .sub (.tmp 7) (.const (.int .i64 1)),
    none⟩, ⟨some 9, .fld 1 (.tmp 1), none⟩, ⟨some 10, .load false 1 (.tmp 9), none⟩, ⟨some 11, .bin .quo (.tmp 8) (.tmp 10), none⟩, ⟨some 2, .mv (.tmp 11), none⟩]) .ret))
theorem low27 : lowF Try.prog [1] Try.f27 = some (12, lc27.strip, [.tmp 2]) := by kernel_rfl
theorem fn27 : FnOk Try.prog 27 12 lc27 [.tmp 2] := ⟨Try.call27, [1], _, Try.func27, low27⟩
/-- moonpool/sonar.deep -/
def lc28 : LCode :=
  (.seq (.region [⟨some 6, .alloc [(.int .i64 0), (.int .i64 0)], none⟩]) (.seq (.region [⟨some 7, .alloc [(.int .i64 0), (.int .i64 0)], none⟩]) (.seq (.region [⟨some 13, .fld 1
    (.tmp 7), none⟩, ⟨none, .store 1 (.tmp 13) (.const (.int .i64 1)), none⟩]) (.seq (.region [⟨some 8, .mv (.const (.int .i64 0)), none⟩]) (.seq (.seq (.region [⟨some 14, .mv (.tmp
    0), none⟩, ⟨some 15, .len (.tmp 14), none⟩, ⟨some 16, .mv (.const (.int .i64 0)), none⟩]) (.block 0 (.loop (.seq (.region [⟨some 17, .bin .lss (.tmp 16) (.tmp 15), none⟩]) (.seq
    (.cond (.tmp 17) .skip (.exit 0)) (.seq (.block 1 (.seq (.region [⟨some 18, .mv (.tmp 16), none⟩, ⟨some 19, .idx 3 (.tmp 14) (.tmp 16), none⟩, ⟨some 20, .load true 3 (.tmp 19),
    none⟩, ⟨some 10, .alloc [(.int .i64 0), (.int .i64 0), (.int .i64 0)], none⟩, ⟨some 9, .mv (.tmp 18), none⟩, ⟨none, .store 3 (.tmp 10) (.tmp 20), none⟩]) (.seq (.regionD [⟨some
    21, .load true 2 (.tmp 7), none⟩, ⟨some 22, .fld 0 (.tmp 10), none⟩, ⟨some 23, .load false 1 (.tmp 22), none⟩, ⟨some 24, .mv (.tmp 2), none⟩, ⟨some 25, .load true 3 (.tmp 10),
    none⟩, ⟨some 26, .call (.tmp 24) [(.tmp 25)], none⟩, ⟨some 27, .build [(.int .i64 0), (.int .i64 0)] [(0, 1, (.tmp 23)), (1, 1, (.tmp 26))], none⟩, ⟨some 28, .call (.func 43)
    [(.tmp 21), (.tmp 27)], none⟩, ⟨some 11, .alloc [(.int .i64 0), (.int .i64 0)], none⟩, ⟨none, .store 2 (.tmp 11) (.tmp 28), none⟩] [0, 0, 2, 0, 0, 24, 62, 127, 0, 511] [0, 1, 2,
    3, 4, 5, 6, 7, 8, 9]) (.seq (.seq (.region [⟨some 29, .mv (.tmp 9), none⟩, ⟨some 30, .mv (.tmp 0), none⟩, ⟨some 31, .len (.tmp 30), none⟩, ⟨some 32, .bin .sub (.tmp 31) (.const
    (.int .i64 1)), none⟩, ⟨some 33, .bin .eql (.tmp 29) (.tmp 32), none⟩, ⟨some 34, .mv (.tmp 33), none⟩, ⟨some 35, .fld 0 (.tmp 11), some (34, false)⟩, ⟨some 36, .load false 1
    (.tmp 35), some (34, false)⟩, ⟨some 37, .mv (.tmp 1), some (34, false)⟩, ⟨some 38, .fld 1 (.tmp 11), some (34, false)⟩, ⟨some 39, .load false 1 (.tmp 38), some (34, false)⟩,
    ⟨some 40, .bin .mul (.tmp 37) (.tmp 39), some (34, false)⟩, ⟨some 41, .bin .gtr (.tmp 36) (.tmp 40), some (34, false)⟩, ⟨some 42, .pick (.tmp 34) (.const (.bool true)) (.tmp
    41), none⟩]) (.cond (.tmp 42) (.seq (.region [⟨some 43, .mv (.tmp 1), none⟩, ⟨some 44, .fld 1 (.tmp 7), none⟩, ⟨some 45, .load false 1 (.tmp 44), none⟩, ⟨some 46, .bin .mul
    (.tmp 43) (.tmp 45), none⟩, ⟨some 47, .fld 0 (.tmp 7), none⟩, ⟨some 48, .load false 1 (.tmp 47), none⟩, ⟨some 49, .bin .sub (.tmp 46) (.tmp 48), none⟩, ⟨some 50, .fld 1 (.tmp
    7), none⟩, ⟨some 51, .load false 1 (.tmp 50), none⟩, ⟨some 52, .build [(.int .i64 0), (.int .i64 0)] [(0, 1, (.tmp 49)), (1, 1, (.tmp 51))], none⟩, ⟨some 12, .alloc [(.int .i64
    0), (.int .i64 0)], none⟩, ⟨none, .store 2 (.tmp 12) (.tmp 52), none⟩]) (.seq (.regionD [⟨some 53, .mv (.tmp 8), none⟩, ⟨some 54, .fld 1 (.tmp 12), none⟩, ⟨some 55, .load false
    1 (.tmp 54), none⟩, ⟨some 56, .bin .mul (.tmp 53) (.tmp 55), none⟩, ⟨some 57, .fld 0 (.tmp 12), none⟩, ⟨some 58, .load false 1 (.tmp 57), none⟩, ⟨some 59, .mv (.tmp 2), none⟩,
    ⟨some 60, .load true 3 (.tmp 10), none⟩, ⟨some 61, .call (.tmp 59) [(.tmp 60)], none⟩, ⟨some 62, .bin .mul (.tmp 58) (.tmp 61), none⟩, ⟨some 63, .bin .add (.tmp 56) (.tmp 62),
    none⟩, ⟨some 64, .fld 1 (.tmp 12), none⟩, ⟨some 65, .load false 1 (.tmp 64), none⟩, ⟨some 66, .build [(.int .i64 0), (.int .i64 0)] [(0, 1, (.tmp 63)), (1, 1, (.tmp 65))],
    none⟩, ⟨none, .store 2 (.tmp 6) (.tmp 66), none⟩] [0, 0, 2, 7, 0, 16, 0, 0, 192, 496, 1023, 0, 2048, 8191, 16383] [0, 1, 2, 3, 4, 5, 6, 7, 8, 9, 10, 11, 12, 13, 14]) .ret))
    .skip)) (.regionD [⟨some 67, .load true 2 (.tmp 11), none⟩, ⟨some 68, .mv (.tmp 8), none⟩, ⟨some 69, .fld 0 (.tmp 10), none⟩, ⟨some 70, .load false 1 (.tmp 69), none⟩, ⟨some 71,
    .bin .add (.tmp 68) (.tmp 70), none⟩, ⟨none, .store 2 (.tmp 7) (.tmp 67), none⟩, ⟨some 8, .mv (.tmp 71), none⟩] [0, 0, 0, 4, 14, 1, 63] [0, 1, 2, 3, 4, 5, 6]))))) (.region
    [⟨some 72, .bin .add (.tmp 16) (.const (.int .i64 1)), none⟩, ⟨some 16, .mv (.tmp 72), none⟩]))))))) (.seq (.region [⟨some 73, .load true 2 (.tmp 7), none⟩, ⟨none, .store 2
    (.tmp 6) (.tmp 73), none⟩]) .ret))))))
theorem low28 : lowF Try.prog [] Try.f28 = some (74, lc28.strip, [.cell 6 true 2]) := by kernel_rfl
theorem fn28 : FnOk Try.prog 28 74 lc28 [.cell 6 true 2] := ⟨Try.call28, [], _, Try.func28, low28⟩
/-- moonpool/sonar.BoundOf -/
def lc29 : LCode :=
  (.seq (.region [⟨some 1, .boxS (.tmp 0), none⟩, ⟨some 2, .mv (.const (.slice none 0 0)), none⟩, ⟨some 3, .mv (.const (.int .i64 0)), none⟩, ⟨some 4, .mv (.const (.int .i64 0)),
    none⟩]) (.seq (.seq (.region [⟨some 9, .load false 1 (.tmp 1), none⟩, ⟨some 10, .call (.func 44) [(.tmp 9)], none⟩, ⟨some 5, .mv (.tmp 10), none⟩]) (.seq (.region [⟨some 11, .mv
    (.tmp 5), none⟩, ⟨some 12, .bin .neq (.tmp 11) (.const (.int .i64 0)), none⟩]) (.cond (.tmp 12) (.seq (.region [⟨some 13, .mv (.tmp 5), none⟩, ⟨some 2, .mv (.const (.slice none
    0 0)), none⟩, ⟨some 3, .mv (.const (.int .i64 0)), none⟩, ⟨some 4, .mv (.tmp 13), none⟩]) .ret) .skip))) (.seq (.region [⟨some 15, .load false 1 (.tmp 1), none⟩, ⟨some 16, .len
    (.tmp 15), none⟩, ⟨some 17, .mkfn 45 [(.tmp 1)], none⟩, ⟨some 18, .call (.func 34) [(.tmp 16), (.tmp 17)], none⟩, ⟨some 14, .mv (.tmp 18), none⟩, ⟨some 19, .ext (.tmp 14) 0,
    none⟩, ⟨some 20, .ext (.tmp 14) 1, none⟩, ⟨some 21, .ext (.tmp 14) 2, none⟩, ⟨some 6, .mv (.tmp 19), none⟩, ⟨some 7, .mv (.tmp 20), none⟩, ⟨some 8, .mv (.tmp 21), none⟩]) (.seq
    (.region [⟨some 22, .mv (.tmp 6), none⟩, ⟨some 23, .mv (.tmp 7), none⟩, ⟨some 24, .un .neg (.tmp 23), none⟩, ⟨some 2, .mv (.tmp 22), none⟩, ⟨some 3, .mv (.tmp 24), none⟩, ⟨some
    4, .mv (.const (.int .i64 0)), none⟩]) .ret))))
theorem low29 : lowF Try.prog [1] Try.f29 = some (25, lc29.strip, [.tmp 2, .tmp 3, .tmp 4]) := by kernel_rfl
theorem fn29 : FnOk Try.prog 29 25 lc29 [.tmp 2, .tmp 3, .tmp 4] := ⟨Try.call29, [1], _, Try.func29, low29⟩
/-- moonpool/sonar.FirstTurns -/
def lc30 : LCode :=
  (.seq (.region [⟨some 4, .alloc [(.int .i64 0), (.slice none 0 0)], none⟩, ⟨some 5, .mv (.const (.int .i64 0)), none⟩]) (.seq (.seq (.region [⟨some 8, .mv (.tmp 0), none⟩, ⟨some
    9, .call (.func 44) [(.tmp 8)], none⟩, ⟨some 10, .mv (.tmp 1), none⟩, ⟨some 11, .call (.func 48) [(.tmp 10)], none⟩, ⟨some 12, .lit false 29 1 [(.tmp 9), (.tmp 11)], none⟩,
    ⟨some 13, .call (.func 40) [(.tmp 12)], none⟩, ⟨some 6, .mv (.tmp 13), none⟩]) (.seq (.region [⟨some 14, .mv (.tmp 6), none⟩, ⟨some 15, .bin .neq (.tmp 14) (.const (.int .i64
    0)), none⟩]) (.cond (.tmp 15) (.seq (.region [⟨some 16, .build [(.int .i64 0), (.slice none 0 0)] [], none⟩, ⟨some 17, .mv (.tmp 6), none⟩, ⟨none, .store 2 (.tmp 4) (.tmp 16),
    none⟩, ⟨some 5, .mv (.tmp 17), none⟩]) .ret) .skip))) (.seq (.region [⟨some 18, .mv (.tmp 0), none⟩, ⟨some 19, .mv (.tmp 1), none⟩, ⟨some 20, .call (.func 49) [(.tmp 18),
    (.const (.slice none 0 0)), (.tmp 19)], none⟩, ⟨some 7, .mv (.tmp 20), none⟩]) (.seq (.seq (.region [⟨some 21, .mv (.tmp 7), none⟩, ⟨some 22, .isnil false (.tmp 21), none⟩])
    (.cond (.tmp 22) (.seq (.region [⟨some 23, .build [(.int .i64 0), (.slice none 0 0)] [], none⟩, ⟨none, .store 2 (.tmp 4) (.tmp 23), none⟩, ⟨some 5, .mv (.const (.int .i64 12)),
    none⟩]) .ret) .skip)) (.seq (.region [⟨some 24, .mv (.tmp 1), none⟩, ⟨some 25, .mv (.tmp 7), none⟩, ⟨some 26, .build [(.int .i64 0), (.slice none 0 0)] [(0, 1, (.tmp 24)), (1,
    1, (.tmp 25))], none⟩, ⟨none, .store 2 (.tmp 4) (.tmp 26), none⟩, ⟨some 5, .mv (.const (.int .i64 0)), none⟩]) .ret)))))
theorem low30 : lowF Try.prog [] Try.f30 = some (27, lc30.strip, [.cell 4 true 2, .tmp 5]) := by kernel_rfl
theorem fn30 : FnOk Try.prog 30 27 lc30 [.cell 4 true 2, .tmp 5] := ⟨Try.call30, [], _, Try.func30, low30⟩
end Go.Pw

set_option linter.unusedVariables false
set_option maxHeartbeats 2000000
set_option maxRecDepth 100000
namespace Go.Pw
open Go Go.Proofs
/-- moonpool/moonpoolref04.CycleErr -/
def lc31 : LCode :=
  (.seq (.region [⟨some 2, .mv (.const (.int .i64 0)), none⟩]) (.seq (.seq (.region [⟨some 3, .mv (.tmp 0), none⟩, ⟨some 4, .call (.func 6) [(.tmp 3), (.const (.int .i64 1)),
    (.const (.int .i64 40))], none⟩, ⟨some 5, .un .not (.tmp 4), none⟩]) (.cond (.tmp 5) (.seq (.region [⟨some 2, .mv (.const (.int .i64 2)), none⟩]) .ret) .skip)) (.seq (.region
    [⟨some 2, .mv (.const (.int .i64 0)), none⟩]) .ret)))
theorem low31 : lowF Try.prog [] Try.f31 = some (6, lc31.strip, [.tmp 2]) := by kernel_rfl
theorem fn31 : FnOk Try.prog 31 6 lc31 [.tmp 2] := ⟨Try.call31, [], _, Try.func31, low31⟩
/-- moonpool/moonpoolbase.Size -/
def lc32 : LCode :=
  (.seq (.region [⟨some 2, .mv (.const (.int .i64 0)), none⟩]) (.seq (.region [⟨some 3, .mv (.tmp 0), none⟩, ⟨some 4, .mv (.tmp 0), none⟩, ⟨some 5, .un .neg (.tmp 4), none⟩, ⟨some
    6, .mm true [(.tmp 3), (.tmp 5)], none⟩, ⟨some 2, .mv (.tmp 6), none⟩]) .ret))
theorem low32 : lowF Try.prog [] Try.f32 = some (7, lc32.strip, [.tmp 2]) := by kernel_rfl
theorem fn32 : FnOk Try.prog 32 7 lc32 [.tmp 2] := ⟨Try.call32, [], _, Try.func32, low32⟩
/-- moonpool/sonar.sceneErr -/
def lc33 : LCode :=
  (.seq (.region [⟨some 1, .boxS (.tmp 0), none⟩, ⟨some 2, .mv (.const (.int .i64 0)), none⟩]) (.seq (.region [⟨some 6, .load true 3 (.tmp 1), none⟩, ⟨some 7, .call (.func 50)
    [(.tmp 6)], none⟩, ⟨some 5, .mv (.tmp 7), none⟩, ⟨some 8, .ext (.tmp 5) 0, none⟩, ⟨some 9, .ext (.tmp 5) 1, none⟩, ⟨some 3, .mv (.tmp 8), none⟩, ⟨some 4, .mv (.tmp 9), none⟩])
    (.seq (.region [⟨some 10, .mv (.tmp 4), none⟩, ⟨some 2, .mv (.tmp 10), none⟩]) .ret)))
theorem low33 : lowF Try.prog [1] Try.f33 = some (11, lc33.strip, [.tmp 2]) := by kernel_rfl
theorem fn33 : FnOk Try.prog 33 11 lc33 [.tmp 2] := ⟨Try.call33, [1], _, Try.func33, low33⟩
/-- moonpool/sonar.best -/
def lc34 : LCode :=
  (.seq (.region [⟨some 4, .mv (.const (.slice none 0 0)), none⟩, ⟨some 5, .mv (.const (.int .i64 0)), none⟩, ⟨some 6, .mv (.const (.bool false)), none⟩]) (.seq (.region [⟨some 7,
    .mv (.const (.slice none 0 0)), none⟩]) (.seq (.region [⟨some 8, .mv (.const (.int .i64 0)), none⟩, ⟨some 9, .mv (.const (.bool false)), none⟩]) (.seq (.seq (.region [⟨some 15,
    .mv (.tmp 0), none⟩, ⟨some 16, .bin .shl (.const (.int .u64 1)) (.tmp 15), none⟩, ⟨some 17, .mv (.const (.int .u64 0)), none⟩]) (.block 0 (.loop (.seq (.region [⟨some 18, .bin
    .lss (.tmp 17) (.tmp 16), none⟩]) (.seq (.cond (.tmp 18) .skip (.exit 0)) (.seq (.block 1 (.seq (.region [⟨some 19, .mv (.tmp 17), none⟩, ⟨some 10, .mv (.tmp 19), none⟩]) (.seq
    (.region [⟨some 11, .mv (.const (.slice none 0 0)), none⟩]) (.seq (.seq (.region [⟨some 20, .mv (.tmp 0), none⟩, ⟨some 21, .mv (.const (.int .i64 0)), none⟩]) (.block 2 (.loop
    (.seq (.region [⟨some 22, .bin .lss (.tmp 21) (.tmp 20), none⟩]) (.seq (.cond (.tmp 22) .skip (.exit 2)) (.seq (.block 3 (.seq (.region [⟨some 23, .mv (.tmp 21), none⟩, ⟨some
    12, .mv (.tmp 23), none⟩]) (.seq (.region [⟨some 24, .mv (.tmp 10), none⟩, ⟨some 25, .mv (.tmp 12), none⟩, ⟨some 26, .bin .shr (.tmp 24) (.tmp 25), none⟩, ⟨some 27, .bin .and
    (.tmp 26) (.const (.int .u64 1)), none⟩, ⟨some 28, .bin .eql (.tmp 27) (.const (.int .u64 1)), none⟩]) (.cond (.tmp 28) (.region [⟨some 29, .mv (.tmp 11), none⟩, ⟨some 30, .mv
    (.tmp 12), none⟩, ⟨some 31, .lit false 3 1 [(.tmp 30)], none⟩, ⟨some 32, .append true 3 1 8 (.tmp 29) (.tmp 31), none⟩, ⟨some 11, .mv (.tmp 32), none⟩]) .skip)))) (.region
    [⟨some 33, .bin .add (.tmp 21) (.const (.int .i64 1)), none⟩, ⟨some 21, .mv (.tmp 33), none⟩]))))))) (.seq (.region [⟨some 35, .mv (.tmp 1), none⟩, ⟨some 36, .mv (.tmp 11),
    none⟩, ⟨some 37, .call (.tmp 35) [(.tmp 36)], none⟩, ⟨some 34, .mv (.tmp 37), none⟩, ⟨some 38, .ext (.tmp 34) 0, none⟩, ⟨some 39, .ext (.tmp 34) 1, none⟩, ⟨some 13, .mv (.tmp
    38), none⟩, ⟨some 14, .mv (.tmp 39), none⟩]) (.seq (.region [⟨some 40, .mv (.tmp 14), none⟩, ⟨some 41, .mv (.tmp 40), none⟩, ⟨some 42, .mv (.tmp 9), some (41, true)⟩, ⟨some 43,
    .un .not (.tmp 42), some (41, true)⟩, ⟨some 44, .mv (.tmp 43), some (41, true)⟩, ⟨some 45, .mv (.tmp 13), some (44, false)⟩, ⟨some 46, .mv (.tmp 8), some (44, false)⟩, ⟨some 47,
    .call (.func 52) [(.tmp 45), (.tmp 46)], some (44, false)⟩, ⟨some 48, .mv (.tmp 11), some (44, false)⟩, ⟨some 49, .len (.tmp 48), some (44, false)⟩, ⟨some 50, .mv (.tmp 7), some
    (44, false)⟩, ⟨some 51, .len (.tmp 50), some (44, false)⟩, ⟨some 52, .call (.func 52) [(.tmp 49), (.tmp 51)], some (44, false)⟩, ⟨some 53, .mv (.tmp 11), some (44, false)⟩,
    ⟨some 54, .mv (.tmp 7), some (44, false)⟩, ⟨some 55, .call (.func 53) [(.tmp 53), (.tmp 54)], some (44, false)⟩, ⟨some 56, .lit false 3 1 [(.tmp 47), (.tmp 52), (.tmp 55)], some
    (44, false)⟩, ⟨some 57, .call (.func 51) [(.tmp 56)], some (44, false)⟩, ⟨some 58, .bin .lss (.tmp 57) (.const (.int .i64 0)), some (44, false)⟩, ⟨some 59, .pick (.tmp 44)
    (.const (.bool true)) (.tmp 58), some (41, true)⟩, ⟨some 60, .pick (.tmp 41) (.tmp 59) (.const (.bool false)), none⟩]) (.cond (.tmp 60) (.region [⟨some 61, .mv (.tmp 11), none⟩,
    ⟨some 62, .mv (.tmp 13), none⟩, ⟨some 7, .mv (.tmp 61), none⟩, ⟨some 8, .mv (.tmp 62), none⟩, ⟨some 9, .mv (.const (.bool true)), none⟩]) .skip))))))) (.region [⟨some 63, .bin
    .add (.tmp 17) (.const (.int .u64 1)), none⟩, ⟨some 17, .mv (.tmp 63), none⟩]))))))) (.seq (.region [⟨some 64, .mv (.tmp 7), none⟩, ⟨some 65, .mv (.tmp 8), none⟩, ⟨some 66, .mv
    (.tmp 9), none⟩, ⟨some 4, .mv (.tmp 64), none⟩, ⟨some 5, .mv (.tmp 65), none⟩, ⟨some 6, .mv (.tmp 66), none⟩]) .ret)))))
theorem low34 : lowF Try.prog [32] Try.f34 = some (67, lc34.strip, [.tmp 4, .tmp 5, .tmp 6]) := by kernel_rfl
theorem fn34 : FnOk Try.prog 34 67 lc34 [.tmp 4, .tmp 5, .tmp 6] := ⟨Try.call34, [32], _, Try.func34, low34⟩
/-- moonpool/sonar.OddRays$1 -/
def lc35 : LCode :=
  (.seq (.region [⟨some 3, .mv (.const (.int .i64 0)), none⟩, ⟨some 4, .mv (.const (.bool false)), none⟩]) (.seq (.region [⟨some 5, .mv (.tmp 0), none⟩, ⟨some 6, .len (.tmp 5),
    none⟩, ⟨some 7, .load true 3 (.tmp 1), none⟩, ⟨some 8, .mv (.tmp 0), none⟩, ⟨some 9, .call (.func 37) [(.tmp 7), (.tmp 8)], none⟩, ⟨some 10, .call (.func 36) [(.tmp 9), (.const
    (.int .i64 3))], none⟩, ⟨some 11, .un .not (.tmp 10), none⟩, ⟨some 3, .mv (.tmp 6), none⟩, ⟨some 4, .mv (.tmp 11), none⟩]) .ret))
theorem low35 : lowF Try.prog [] Try.f35 = some (12, lc35.strip, [.tmp 3, .tmp 4]) := by kernel_rfl
theorem fn35 : FnOk Try.prog 35 12 lc35 [.tmp 3, .tmp 4] := ⟨Try.call35, [], _, Try.func35, low35⟩
/-- slices.Contains[[]int,int] -/
def lc36 : LCode :=
  (.seq (.region [⟨some 4, .mv (.const (.bool false)), none⟩]) (.seq (.region [⟨some 5, .mv (.tmp 0), none⟩, ⟨some 6, .mv (.tmp 1), none⟩, ⟨some 7, .call (.func 54) [(.tmp 5), (.tmp
    6)], none⟩, ⟨some 8, .bin .geq (.tmp 7) (.const (.int .i64 0)), none⟩, ⟨some 4, .mv (.tmp 8), none⟩]) .ret))
theorem low36 : lowF Try.prog [] Try.f36 = some (9, lc36.strip, [.tmp 4]) := by kernel_rfl
theorem fn36 : FnOk Try.prog 36 9 lc36 [.tmp 4] := ⟨Try.call36, [], _, Try.func36, low36⟩
def ra37 : LCode :=
  (.region [⟨some 8, .alloc [(.int .i64 0), (.int .i64 0)], none⟩, ⟨none, .store 2 (.tmp 8) (.tmp 30), none⟩])
def rb37 : LCode :=
  (.block 3 (.regionD [⟨some 31, .load false 1 (.tmp 5), none⟩, ⟨some 32, .fld 0 (.tmp 8), none⟩, ⟨some 33, .load false 1 (.tmp 32), none⟩, ⟨some 34, .idx 1 (.tmp 31) (.tmp 33),
    none⟩, ⟨some 35, .load false 1 (.tmp 34), none⟩, ⟨some 36, .fld 1 (.tmp 8), none⟩, ⟨some 37, .load false 1 (.tmp 36), none⟩, ⟨some 38, .bin .or (.tmp 35) (.tmp 37), none⟩, ⟨some
    39, .idx 1 (.tmp 31) (.tmp 33), none⟩, ⟨none, .store 1 (.tmp 39) (.tmp 38), none⟩] [0, 0, 2, 7, 15, 0, 32, 127, 255, 511] [0, 1, 2, 3, 4, 5, 6, 7, 8, 9]))
/-- moonpool/sonar.states -/
def lc37 : LCode :=
  (.seq (.region [⟨some 2, .boxS (.tmp 0), none⟩, ⟨some 4, .mv (.const (.slice none 0 0)), none⟩]) (.seq (.region [⟨some 9, .fld 0 (.tmp 2), none⟩, ⟨some 10, .load false 1 (.tmp 9),
    none⟩, ⟨some 11, .fld 1 (.tmp 2), none⟩, ⟨some 12, .load false 1 (.tmp 11), none⟩, ⟨some 13, .bin .mul (.tmp 10) (.tmp 12), none⟩, ⟨some 14, .make true 3 1 8 [(.int .i64 0)]
    (.tmp 13), none⟩, ⟨some 5, .alloc [(.slice none 0 0)], none⟩, ⟨none, .store 1 (.tmp 5) (.tmp 14), none⟩]) (.seq (.seq (.region [⟨some 15, .fld 2 (.tmp 2), none⟩, ⟨some 16, .load
    false 1 (.tmp 15), none⟩, ⟨some 17, .len (.tmp 16), none⟩, ⟨some 18, .mv (.const (.int .i64 0)), none⟩]) (.block 0 (.loop (.seq (.region [⟨some 19, .bin .lss (.tmp 18) (.tmp
    17), none⟩]) (.seq (.cond (.tmp 19) .skip (.exit 0)) (.seq (.block 1 (.seq (.region [⟨some 20, .mv (.tmp 18), none⟩, ⟨some 21, .idx 5 (.tmp 16) (.tmp 18), none⟩, ⟨some 22, .load
    true 5 (.tmp 21), none⟩, ⟨some 7, .alloc [(.int .i64 0), (.int .i64 0), (.int .i64 0), (.int .i64 0), (.bool false)], none⟩, ⟨some 6, .mv (.tmp 20), none⟩, ⟨none, .store 5 (.tmp
    7) (.tmp 22), none⟩]) (.seq (.seq (.region [⟨some 23, .mv (.tmp 1), none⟩, ⟨some 24, .mv (.tmp 6), none⟩, ⟨some 25, .call (.func 36) [(.tmp 23), (.tmp 24)], none⟩]) (.cond (.tmp
    25) (.exit 1) .skip)) (.seq (.region [⟨some 26, .load true 5 (.tmp 7), none⟩, ⟨some 27, .fld 0 (.tmp 2), none⟩, ⟨some 28, .load false 1 (.tmp 27), none⟩, ⟨some 29, .call (.func
    55) [(.tmp 26), (.tmp 28)], none⟩]) (.block 2 (.rangeFunc (.tmp 29) [30] ra37 rb37)))))) (.region [⟨some 40, .bin .add (.tmp 18) (.const (.int .i64 1)), none⟩, ⟨some 18, .mv
    (.tmp 40), none⟩]))))))) (.seq (.region [⟨some 41, .load false 1 (.tmp 5), none⟩, ⟨some 4, .mv (.tmp 41), none⟩]) .ret))))
theorem low37 : lowF Try.prog [2, 14] Try.f37 = some (42, lc37.strip, [.tmp 4]) := by kernel_rfl
theorem fn37 : FnOk Try.prog 37 42 lc37 [.tmp 4] := ⟨Try.call37, [2, 14], _, Try.func37, low37⟩
/-- moonpool/moonpoollaw04.Ray -/
def lc38 : LCode :=
  (.seq (.region [⟨some 10, .alloc [(.int .i64 0), (.int .i64 0), (.int .i64 0), (.int .i64 0), (.bool false)], none⟩]) (.seq (.region [⟨some 11, .mv (.tmp 0), none⟩, ⟨some 12, .mv
    (.tmp 1), none⟩, ⟨some 13, .build [(.int .i64 0), (.int .i64 0)] [(0, 1, (.tmp 11)), (1, 1, (.tmp 12))], none⟩, ⟨some 14, .mv (.tmp 2), none⟩, ⟨some 15, .mv (.tmp 3), none⟩,
    ⟨some 16, .build [(.int .i64 0), (.int .i64 0)] [(0, 1, (.tmp 14)), (1, 1, (.tmp 15))], none⟩, ⟨some 17, .mv (.tmp 4), none⟩, ⟨some 18, .build [(.int .i64 0), (.int .i64 0),
    (.int .i64 0), (.int .i64 0), (.bool false)] [(0, 2, (.tmp 13)), (2, 2, (.tmp 16)), (4, 1, (.tmp 17))], none⟩, ⟨none, .store 5 (.tmp 10) (.tmp 18), none⟩]) .ret))
theorem low38 : lowF Try.prog [] Try.f38 = some (19, lc38.strip, [.cell 10 true 5]) := by kernel_rfl
theorem fn38 : FnOk Try.prog 38 19 lc38 [.cell 10 true 5] := ⟨Try.call38, [], _, Try.func38, low38⟩
/-- moonpool/sonar.CheckLayers -/
def lc39 : LCode :=
  (.seq (.region [⟨some 2, .mv (.const (.int .i64 0)), none⟩, ⟨some 3, .mv (.const (.int .i64 0)), none⟩]) (.seq (.seq (.region [⟨some 6, .mv (.tmp 0), none⟩, ⟨some 7, .len (.tmp
    6), none⟩, ⟨some 8, .call (.func 56) [(.tmp 7), (.const (.int .i64 6))], none⟩, ⟨some 4, .mv (.tmp 8), none⟩]) (.seq (.region [⟨some 9, .mv (.tmp 4), none⟩, ⟨some 10, .bin .neq
    (.tmp 9) (.const (.int .i64 0)), none⟩]) (.cond (.tmp 10) (.seq (.region [⟨some 11, .mv (.tmp 4), none⟩, ⟨some 2, .mv (.const (.int .i64 0)), none⟩, ⟨some 3, .mv (.tmp 11),
    none⟩]) .ret) .skip))) (.seq (.region [⟨some 5, .alloc [.nilFunc], none⟩, ⟨none, .store 1 (.tmp 5) (.func 57), none⟩]) (.seq (.region [⟨some 12, .mv (.tmp 0), none⟩, ⟨some 13,
    .mkfn 59 [(.tmp 5)], none⟩, ⟨some 14, .call (.func 58) [(.tmp 12), (.tmp 13)], none⟩, ⟨some 15, .ext (.tmp 14) 0, none⟩, ⟨some 16, .ext (.tmp 14) 1, none⟩, ⟨some 2, .mv (.tmp
    15), none⟩, ⟨some 3, .mv (.tmp 16), none⟩]) .ret))))
theorem low39 : lowF Try.prog [] Try.f39 = some (17, lc39.strip, [.tmp 2, .tmp 3]) := by kernel_rfl
theorem fn39 : FnOk Try.prog 39 17 lc39 [.tmp 2, .tmp 3] := ⟨Try.call39, [], _, Try.func39, low39⟩
/-- moonpool/sonar.first -/
def lc40 : LCode :=
  (.seq (.region [⟨some 2, .mv (.const (.int .i64 0)), none⟩]) (.seq (.seq (.region [⟨some 5, .mv (.tmp 0), none⟩, ⟨some 6, .len (.tmp 5), none⟩, ⟨some 7, .mv (.const (.int .i64
    0)), none⟩]) (.block 0 (.loop (.seq (.region [⟨some 8, .bin .lss (.tmp 7) (.tmp 6), none⟩]) (.seq (.cond (.tmp 8) .skip (.exit 0)) (.seq (.block 1 (.seq (.region [⟨some 9, .idx
    1 (.tmp 5) (.tmp 7), none⟩, ⟨some 10, .load false 1 (.tmp 9), none⟩, ⟨some 4, .mv (.tmp 10), none⟩]) (.seq (.region [⟨some 11, .mv (.tmp 4), none⟩, ⟨some 12, .bin .neq (.tmp 11)
    (.const (.int .i64 0)), none⟩]) (.cond (.tmp 12) (.seq (.region [⟨some 13, .mv (.tmp 4), none⟩, ⟨some 2, .mv (.tmp 13), none⟩]) .ret) .skip)))) (.region [⟨some 14, .bin .add
    (.tmp 7) (.const (.int .i64 1)), none⟩, ⟨some 7, .mv (.tmp 14), none⟩]))))))) (.seq (.region [⟨some 2, .mv (.const (.int .i64 0)), none⟩]) .ret)))
theorem low40 : lowF Try.prog [] Try.f40 = some (15, lc40.strip, [.tmp 2]) := by kernel_rfl
theorem fn40 : FnOk Try.prog 40 15 lc40 [.tmp 2] := ⟨Try.call40, [], _, Try.func40, low40⟩
/-- moonpool/sonar.unless -/
def lc41 : LCode :=
  (.seq (.region [⟨some 4, .mv (.const (.int .i64 0)), none⟩]) (.seq (.seq (.region [⟨some 5, .mv (.tmp 0), none⟩]) (.cond (.tmp 5) (.seq (.region [⟨some 4, .mv (.const (.int .i64
    0)), none⟩]) .ret) .skip)) (.seq (.region [⟨some 6, .mv (.tmp 1), none⟩, ⟨some 4, .mv (.tmp 6), none⟩]) .ret)))
theorem low41 : lowF Try.prog [] Try.f41 = some (7, lc41.strip, [.tmp 4]) := by kernel_rfl
theorem fn41 : FnOk Try.prog 41 7 lc41 [.tmp 4] := ⟨Try.call41, [], _, Try.func41, low41⟩
/-- moonpool/sonar.within -/
def lc42 : LCode :=
  (.seq (.region [⟨some 6, .mv (.const (.bool false)), none⟩]) (.seq (.region [⟨some 7, .mv (.tmp 1), none⟩, ⟨some 8, .mv (.tmp 0), none⟩, ⟨some 9, .bin .leq (.tmp 7) (.tmp 8),
    none⟩, ⟨some 10, .mv (.tmp 9), none⟩, ⟨some 11, .mv (.tmp 0), some (10, true)⟩, ⟨some 12, .mv (.tmp 2), some (10, true)⟩, ⟨some 13, .bin .leq (.tmp 11) (.tmp 12), some (10,
    true)⟩, ⟨some 14, .pick (.tmp 10) (.tmp 13) (.const (.bool false)), none⟩, ⟨some 6, .mv (.tmp 14), none⟩]) .ret))
theorem low42 : lowF Try.prog [] Try.f42 = some (15, lc42.strip, [.tmp 6]) := by kernel_rfl
theorem fn42 : FnOk Try.prog 42 15 lc42 [.tmp 6] := ⟨Try.call42, [], _, Try.func42, low42⟩
/-- (moonpool/sonar.quotient).plus -/
def lc43 : LCode :=
  (.seq (.region [⟨some 2, .boxS (.tmp 0), none⟩, ⟨some 3, .boxS (.tmp 1), none⟩, ⟨some 4, .alloc [(.int .i64 0), (.int .i64 0)], none⟩]) (.seq (.region [⟨some 7, .fld 1 (.tmp 2),
    none⟩, ⟨some 8, .load false 1 (.tmp 7), none⟩, ⟨some 9, .fld 1 (.tmp 3), none⟩, ⟨some 10, .load false 1 (.tmp 9), none⟩, ⟨some 11, .call (.func 60) [(.tmp 8), (.tmp 10)], none⟩,
    ⟨some 5, .mv (.tmp 11), none⟩]) (.seq (.regionD [⟨some 12, .fld 0 (.tmp 2), none⟩, ⟨some 13, .load false 1 (.tmp 12), none⟩, ⟨some 14, .fld 1 (.tmp 3), none⟩, ⟨some 15, .load
    false 1 (.tmp 14), none⟩, ⟨some 16, .mv (.tmp 5), none⟩, ⟨some 17, .bin .quo (.tmp 15) (.tmp 16), none⟩, ⟨some 18, .bin .mul (.tmp 13) (.tmp 17), none⟩, ⟨some 19, .fld 0 (.tmp
    3), none⟩, ⟨some 20, .load false 1 (.tmp 19), none⟩, ⟨some 21, .fld 1 (.tmp 2), none⟩, ⟨some 22, .load false 1 (.tmp 21), none⟩, ⟨some 23, .mv (.tmp 5), none⟩, ⟨some 24, .bin
    .quo (.tmp 22) (.tmp 23), none⟩, ⟨some 25, .bin .mul (.tmp 20) (.tmp 24), none⟩, ⟨some 26, .bin .add (.tmp 18) (.tmp 25), none⟩, ⟨some 27, .fld 1 (.tmp 2), none⟩, ⟨some 28,
    .load false 1 (.tmp 27), none⟩, ⟨some 29, .mv (.tmp 5), none⟩, ⟨some 30, .bin .quo (.tmp 28) (.tmp 29), none⟩, ⟨some 31, .fld 1 (.tmp 3), none⟩, ⟨some 32, .load false 1 (.tmp
    31), none⟩, ⟨some 33, .bin .mul (.tmp 30) (.tmp 32), none⟩, ⟨some 34, .build [(.int .i64 0), (.int .i64 0)] [(0, 1, (.tmp 26)), (1, 1, (.tmp 33))], none⟩, ⟨some 6, .alloc [(.int
    .i64 0), (.int .i64 0)], none⟩, ⟨none, .store 2 (.tmp 6) (.tmp 34), none⟩] [0, 1, 0, 4, 0, 28, 63, 0, 128, 0, 512, 0, 3584, 8064, 16383, 0, 32768, 0, 229376, 0, 524288, 2064384,
    4194303, 0, 16777215] [0, 1, 2, 3, 4, 5, 6, 7, 8, 9, 10, 11, 12, 13, 14, 15, 16, 17, 18, 19, 20, 21, 22, 23, 24]) (.seq (.region [⟨some 35, .fld 0 (.tmp 6), none⟩, ⟨some 36,
    .load false 1 (.tmp 35), none⟩, ⟨some 37, .fld 1 (.tmp 6), none⟩, ⟨some 38, .load false 1 (.tmp 37), none⟩, ⟨some 39, .call (.func 60) [(.tmp 36), (.tmp 38)], none⟩, ⟨some 5,
    .mv (.tmp 39), none⟩]) (.seq (.regionD [⟨some 40, .fld 0 (.tmp 6), none⟩, ⟨some 41, .load false 1 (.tmp 40), none⟩, ⟨some 42, .mv (.tmp 5), none⟩, ⟨some 43, .bin .quo (.tmp 41)
    (.tmp 42), none⟩, ⟨some 44, .fld 1 (.tmp 6), none⟩, ⟨some 45, .load false 1 (.tmp 44), none⟩, ⟨some 46, .mv (.tmp 5), none⟩, ⟨some 47, .bin .quo (.tmp 45) (.tmp 46), none⟩,
    ⟨some 48, .build [(.int .i64 0), (.int .i64 0)] [(0, 1, (.tmp 43)), (1, 1, (.tmp 47))], none⟩, ⟨none, .store 2 (.tmp 4) (.tmp 48), none⟩] [0, 1, 0, 7, 0, 16, 0, 112, 255, 511]
    [0, 1, 2, 3, 4, 5, 6, 7, 8, 9]) .ret)))))
theorem low43 : lowF Try.prog [2, 3] Try.f43 = some (49, lc43.strip, [.cell 4 true 2]) := by kernel_rfl
theorem fn43 : FnOk Try.prog 43 49 lc43 [.cell 4 true 2] := ⟨Try.call43, [2, 3], _, Try.func43, low43⟩
/-- moonpool/sonar.devicesErr -/
def lc44 : LCode :=
  (.seq (.region [⟨some 2, .mv (.const (.int .i64 0)), none⟩]) (.seq (.region [⟨some 6, .mv (.tmp 0), none⟩, ⟨some 7, .call (.func 61) [(.tmp 6)], none⟩, ⟨some 5, .mv (.tmp 7),
    none⟩, ⟨some 8, .ext (.tmp 5) 0, none⟩, ⟨some 9, .ext (.tmp 5) 1, none⟩, ⟨some 3, .mv (.tmp 8), none⟩, ⟨some 4, .mv (.tmp 9), none⟩]) (.seq (.region [⟨some 10, .mv (.tmp 4),
    none⟩, ⟨some 2, .mv (.tmp 10), none⟩]) .ret)))
theorem low44 : lowF Try.prog [] Try.f44 = some (11, lc44.strip, [.tmp 2]) := by kernel_rfl
theorem fn44 : FnOk Try.prog 44 11 lc44 [.tmp 2] := ⟨Try.call44, [], _, Try.func44, low44⟩
/-- moonpool/sonar.BoundOf$1 -/
def lc45 : LCode :=
  (.seq (.region [⟨some 3, .mv (.const (.int .i64 0)), none⟩, ⟨some 4, .mv (.const (.bool false)), none⟩]) (.seq (.region [⟨some 5, .mv (.const (.int .i64 0)), none⟩]) (.seq (.seq
    (.region [⟨some 10, .mv (.tmp 0), none⟩, ⟨some 11, .len (.tmp 10), none⟩, ⟨some 12, .mv (.const (.int .i64 0)), none⟩]) (.block 0 (.loop (.seq (.region [⟨some 13, .bin .lss
    (.tmp 12) (.tmp 11), none⟩]) (.seq (.cond (.tmp 13) .skip (.exit 0)) (.seq (.block 1 (.seq (.region [⟨some 14, .mv (.tmp 12), none⟩, ⟨some 15, .idx 1 (.tmp 10) (.tmp 12), none⟩,
    ⟨some 16, .load false 1 (.tmp 15), none⟩, ⟨some 6, .mv (.tmp 14), none⟩, ⟨some 7, .mv (.tmp 16), none⟩]) (.seq (.seq (.region [⟨some 17, .mv (.tmp 0), none⟩, ⟨some 18, .mv (.tmp
    6), none⟩, ⟨some 19, .slc 1 (.tmp 17) none (some (.tmp 18)), none⟩, ⟨some 20, .len (.tmp 19), none⟩, ⟨some 21, .mv (.const (.int .i64 0)), none⟩]) (.block 2 (.loop (.seq
    (.region [⟨some 22, .bin .lss (.tmp 21) (.tmp 20), none⟩]) (.seq (.cond (.tmp 22) .skip (.exit 2)) (.seq (.block 3 (.seq (.region [⟨some 23, .idx 1 (.tmp 19) (.tmp 21), none⟩,
    ⟨some 24, .load false 1 (.tmp 23), none⟩, ⟨some 9, .mv (.tmp 24), none⟩]) (.seq (.regionD [⟨some 25, .load false 1 (.tmp 1), none⟩, ⟨some 26, .mv (.tmp 7), none⟩, ⟨some 27, .idx
    3 (.tmp 25) (.tmp 26), none⟩, ⟨some 28, .load true 3 (.tmp 27), none⟩, ⟨some 29, .load false 1 (.tmp 1), none⟩, ⟨some 30, .mv (.tmp 9), none⟩, ⟨some 31, .idx 3 (.tmp 29) (.tmp
    30), none⟩, ⟨some 32, .load true 3 (.tmp 31), none⟩, ⟨some 33, .call (.func 46) [(.tmp 28), (.tmp 32)], none⟩, ⟨some 34, .un .not (.tmp 33), none⟩] [0, 0, 3, 7, 0, 0, 48, 112,
    255, 511] [0, 1, 2, 3, 4, 5, 6, 7, 8, 9]) (.cond (.tmp 34) (.seq (.region [⟨some 3, .mv (.const (.int .i64 0)), none⟩, ⟨some 4, .mv (.const (.bool false)), none⟩]) .ret)
    .skip)))) (.region [⟨some 35, .bin .add (.tmp 21) (.const (.int .i64 1)), none⟩, ⟨some 21, .mv (.tmp 35), none⟩]))))))) (.region [⟨some 36, .mv (.tmp 5), none⟩, ⟨some 37, .load
    false 1 (.tmp 1), none⟩, ⟨some 38, .mv (.tmp 7), none⟩, ⟨some 39, .idx 3 (.tmp 37) (.tmp 38), none⟩, ⟨some 40, .load true 3 (.tmp 39), none⟩, ⟨some 41, .call (.func 47) [(.tmp
    40)], none⟩, ⟨some 42, .bin .sub (.tmp 36) (.tmp 41), none⟩, ⟨some 5, .mv (.tmp 42), none⟩])))) (.region [⟨some 43, .bin .add (.tmp 12) (.const (.int .i64 1)), none⟩, ⟨some 12,
    .mv (.tmp 43), none⟩]))))))) (.seq (.region [⟨some 44, .mv (.tmp 5), none⟩, ⟨some 3, .mv (.tmp 44), none⟩, ⟨some 4, .mv (.const (.bool true)), none⟩]) .ret))))
theorem low45 : lowF Try.prog [] Try.f45 = some (45, lc45.strip, [.tmp 3, .tmp 4]) := by kernel_rfl
theorem fn45 : FnOk Try.prog 45 45 lc45 [.tmp 3, .tmp 4] := ⟨Try.call45, [], _, Try.func45, low45⟩
/-- moonpool/sonar.disturb -/
def lc46 : LCode :=
  (.seq (.region [⟨some 2, .boxS (.tmp 0), none⟩, ⟨some 3, .boxS (.tmp 1), none⟩, ⟨some 4, .mv (.const (.bool false)), none⟩]) (.seq (.region [⟨some 5, .fld 0 (.tmp 2), none⟩, ⟨some
    6, .load false 1 (.tmp 5), none⟩, ⟨some 7, .fld 0 (.tmp 3), none⟩, ⟨some 8, .load false 1 (.tmp 7), none⟩, ⟨some 9, .bin .sub (.tmp 6) (.tmp 8), none⟩, ⟨some 10, .call (.func
    62) [(.tmp 9)], none⟩, ⟨some 11, .bin .leq (.tmp 10) (.const (.int .i64 1)), none⟩, ⟨some 4, .mv (.tmp 11), none⟩]) .ret))
theorem low46 : lowF Try.prog [2, 3] Try.f46 = some (12, lc46.strip, [.tmp 4]) := by kernel_rfl
theorem fn46 : FnOk Try.prog 46 12 lc46 [.tmp 4] := ⟨Try.call46, [2, 3], _, Try.func46, low46⟩
/-- moonpool/sonar.window -/
def lc47 : LCode :=
  (.seq (.region [⟨some 1, .boxS (.tmp 0), none⟩, ⟨some 2, .mv (.const (.int .i64 0)), none⟩]) (.seq (.region [⟨some 3, .fld 1 (.tmp 1), none⟩, ⟨some 4, .load false 1 (.tmp 3),
    none⟩, ⟨some 5, .fld 2 (.tmp 1), none⟩, ⟨some 6, .load false 1 (.tmp 5), none⟩, ⟨some 7, .bin .add (.tmp 4) (.tmp 6), none⟩, ⟨some 2, .mv (.tmp 7), none⟩]) .ret))
theorem low47 : lowF Try.prog [1] Try.f47 = some (8, lc47.strip, [.tmp 2]) := by kernel_rfl
theorem fn47 : FnOk Try.prog 47 8 lc47 [.tmp 2] := ⟨Try.call47, [1], _, Try.func47, low47⟩
/-- moonpool/sonar.cycleErr -/
def lc48 : LCode :=
  (.seq (.region [⟨some 2, .mv (.const (.int .i64 0)), none⟩]) (.seq (.region [⟨some 3, .mv (.tmp 0), none⟩, ⟨some 4, .call (.func 42) [(.tmp 3), (.const (.int .i64 1)), (.const
    (.int .i64 40))], none⟩, ⟨some 5, .call (.func 41) [(.tmp 4), (.const (.int .i64 2))], none⟩, ⟨some 2, .mv (.tmp 5), none⟩]) .ret))
theorem low48 : lowF Try.prog [] Try.f48 = some (6, lc48.strip, [.tmp 2]) := by kernel_rfl
theorem fn48 : FnOk Try.prog 48 6 lc48 [.tmp 2] := ⟨Try.call48, [], _, Try.func48, low48⟩
/-- moonpool/sonar.placed -/
def lc49 : LCode :=
  (.seq (.region [⟨some 6, .mv (.const (.slice none 0 0)), none⟩]) (.scope (.seq (.region [⟨some 12, .mv (.tmp 1), none⟩, ⟨some 13, .len (.tmp 12), none⟩, ⟨some 7, .mv (.tmp 13),
    none⟩]) (.seq (.seq (.region [⟨some 14, .mv (.tmp 7), none⟩, ⟨some 15, .mv (.tmp 0), none⟩, ⟨some 16, .len (.tmp 15), none⟩, ⟨some 17, .bin .eql (.tmp 14) (.tmp 16), none⟩])
    (.cond (.tmp 17) (.seq (.region [⟨some 18, .mv (.tmp 1), none⟩, ⟨some 6, .mv (.tmp 18), none⟩]) .ret) .skip)) (.seq .label (.seq (.seq (.region [⟨some 19, .mv (.tmp 2), none⟩,
    ⟨some 20, .mv (.const (.int .i64 0)), none⟩]) (.block 0 (.loop (.seq (.region [⟨some 21, .bin .lss (.tmp 20) (.tmp 19), none⟩]) (.seq (.cond (.tmp 21) .skip (.exit 0)) (.seq
    (.block 1 (.seq (.region [⟨some 22, .mv (.tmp 20), none⟩, ⟨some 8, .mv (.tmp 22), none⟩]) (.seq (.region [⟨some 23, .mv (.tmp 1), none⟩, ⟨some 24, .call (.func 63) [(.tmp 23)],
    none⟩, ⟨some 25, .mv (.tmp 8), none⟩, ⟨some 26, .lit false 3 1 [(.tmp 25)], none⟩, ⟨some 27, .append false 3 1 8 (.tmp 24) (.tmp 26), none⟩, ⟨some 9, .mv (.tmp 27), none⟩])
    (.seq (.seq (.region [⟨some 28, .mv (.tmp 9), none⟩, ⟨some 29, .len (.tmp 28), none⟩, ⟨some 30, .mv (.const (.int .i64 0)), none⟩]) (.block 2 (.loop (.seq (.region [⟨some 31,
    .bin .lss (.tmp 30) (.tmp 29), none⟩]) (.seq (.cond (.tmp 31) .skip (.exit 2)) (.seq (.block 3 (.seq (.region [⟨some 32, .mv (.tmp 30), none⟩, ⟨some 10, .mv (.tmp 32), none⟩])
    (.seq (.region [⟨some 33, .mv (.tmp 0), none⟩, ⟨some 34, .mv (.tmp 9), none⟩, ⟨some 35, .mv (.tmp 10), none⟩, ⟨some 36, .mv (.tmp 7), none⟩, ⟨some 37, .mv (.tmp 2), none⟩, ⟨some
    38, .call (.func 64) [(.tmp 33), (.tmp 34), (.tmp 35), (.tmp 36), (.tmp 37)], none⟩]) (.cond (.tmp 38) (.exit 1) .skip)))) (.region [⟨some 39, .bin .add (.tmp 30) (.const (.int
    .i64 1)), none⟩, ⟨some 30, .mv (.tmp 39), none⟩]))))))) (.seq (.seq (.region [⟨some 40, .mv (.tmp 0), none⟩, ⟨some 41, .mv (.tmp 9), none⟩, ⟨some 42, .mv (.tmp 2), none⟩, ⟨some
    43, .call (.func 49) [(.tmp 40), (.tmp 41), (.tmp 42)], none⟩, ⟨some 11, .mv (.tmp 43), none⟩]) (.seq (.region [⟨some 44, .mv (.tmp 11), none⟩, ⟨some 45, .isnil true (.tmp 44),
    none⟩]) (.cond (.tmp 45) (.seq (.region [⟨some 46, .mv (.tmp 11), none⟩, ⟨some 6, .mv (.tmp 46), none⟩]) .ret) .skip))) (.seq (.region [⟨some 47, .mv (.tmp 7), none⟩, ⟨some 48,
    .bin .eql (.tmp 47) (.const (.int .i64 0)), none⟩]) (.cond (.tmp 48) (.exit 0) .skip))))))) (.region [⟨some 49, .bin .add (.tmp 20) (.const (.int .i64 1)), none⟩, ⟨some 20, .mv
    (.tmp 49), none⟩]))))))) (.seq (.region [⟨some 6, .mv (.const (.slice none 0 0)), none⟩]) .ret)))))))
theorem low49 : lowF Try.prog [] Try.f49 = some (50, lc49.strip, [.tmp 6]) := by kernel_rfl
theorem fn49 : FnOk Try.prog 49 50 lc49 [.tmp 6] := ⟨Try.call49, [], _, Try.func49, low49⟩
/-- moonpool/sonar.CheckScene -/
def lc50 : LCode :=
  (.seq (.region [⟨some 1, .boxS (.tmp 0), none⟩, ⟨some 2, .mv (.const (.int .i64 0)), none⟩, ⟨some 3, .mv (.const (.int .i64 0)), none⟩]) (.seq (.seq (.region [⟨some 5, .fld 0
    (.tmp 1), none⟩, ⟨some 6, .load false 1 (.tmp 5), none⟩, ⟨some 7, .fld 1 (.tmp 1), none⟩, ⟨some 8, .load false 1 (.tmp 7), none⟩, ⟨some 9, .fld 2 (.tmp 1), none⟩, ⟨some 10,
    .load false 1 (.tmp 9), none⟩, ⟨some 11, .len (.tmp 10), none⟩, ⟨some 12, .call (.func 65) [(.tmp 6), (.tmp 8), (.tmp 11)], none⟩, ⟨some 4, .mv (.tmp 12), none⟩]) (.seq (.region
    [⟨some 13, .mv (.tmp 4), none⟩, ⟨some 14, .bin .neq (.tmp 13) (.const (.int .i64 0)), none⟩]) (.cond (.tmp 14) (.seq (.region [⟨some 15, .mv (.tmp 4), none⟩, ⟨some 2, .mv
    (.const (.int .i64 0)), none⟩, ⟨some 3, .mv (.tmp 15), none⟩]) .ret) .skip))) (.seq (.region [⟨some 16, .fld 2 (.tmp 1), none⟩, ⟨some 17, .load false 1 (.tmp 16), none⟩, ⟨some
    18, .mkfn 67 [(.tmp 1)], none⟩, ⟨some 19, .call (.func 66) [(.tmp 17), (.tmp 18)], none⟩, ⟨some 20, .ext (.tmp 19) 0, none⟩, ⟨some 21, .ext (.tmp 19) 1, none⟩, ⟨some 2, .mv
    (.tmp 20), none⟩, ⟨some 3, .mv (.tmp 21), none⟩]) .ret)))
theorem low50 : lowF Try.prog [1] Try.f50 = some (22, lc50.strip, [.tmp 2, .tmp 3]) := by kernel_rfl
theorem fn50 : FnOk Try.prog 50 22 lc50 [.tmp 2, .tmp 3] := ⟨Try.call50, [1], _, Try.func50, low50⟩
/-- cmp.Or[int] -/
def lc51 : LCode :=
  (.seq (.region [⟨some 2, .mv (.const (.int .i64 0)), none⟩]) (.seq (.region [⟨some 3, .mv (.const (.int .i64 0)), none⟩]) (.seq (.seq (.region [⟨some 6, .mv (.tmp 0), none⟩, ⟨some
    7, .len (.tmp 6), none⟩, ⟨some 8, .mv (.const (.int .i64 0)), none⟩]) (.block 0 (.loop (.seq (.region [⟨some 9, .bin .lss (.tmp 8) (.tmp 7), none⟩]) (.seq (.cond (.tmp 9) .skip
    (.exit 0)) (.seq (.block 1 (.seq (.region [⟨some 10, .idx 1 (.tmp 6) (.tmp 8), none⟩, ⟨some 11, .load false 1 (.tmp 10), none⟩, ⟨some 5, .mv (.tmp 11), none⟩]) (.seq (.region
    [⟨some 12, .mv (.tmp 5), none⟩, ⟨some 13, .mv (.tmp 3), none⟩, ⟨some 14, .bin .neq (.tmp 12) (.tmp 13), none⟩]) (.cond (.tmp 14) (.seq (.region [⟨some 15, .mv (.tmp 5), none⟩,
    ⟨some 2, .mv (.tmp 15), none⟩]) .ret) .skip)))) (.region [⟨some 16, .bin .add (.tmp 8) (.const (.int .i64 1)), none⟩, ⟨some 8, .mv (.tmp 16), none⟩]))))))) (.seq (.region [⟨some
    17, .mv (.tmp 3), none⟩, ⟨some 2, .mv (.tmp 17), none⟩]) .ret))))
theorem low51 : lowF Try.prog [] Try.f51 = some (18, lc51.strip, [.tmp 2]) := by kernel_rfl
theorem fn51 : FnOk Try.prog 51 18 lc51 [.tmp 2] := ⟨Try.call51, [], _, Try.func51, low51⟩
/-- cmp.Compare[int] -/
def lc52 : LCode :=
  (.seq (.region [⟨some 4, .mv (.const (.int .i64 0)), none⟩]) (.seq (.region [⟨some 7, .mv (.tmp 0), none⟩, ⟨some 8, .call (.func 69) [(.tmp 7)], none⟩, ⟨some 5, .mv (.tmp 8),
    none⟩]) (.seq (.region [⟨some 9, .mv (.tmp 1), none⟩, ⟨some 10, .call (.func 69) [(.tmp 9)], none⟩, ⟨some 6, .mv (.tmp 10), none⟩]) (.seq (.seq (.region [⟨some 11, .mv (.tmp 5),
    none⟩]) (.cond (.tmp 11) (.seq (.seq (.region [⟨some 12, .mv (.tmp 6), none⟩]) (.cond (.tmp 12) (.seq (.region [⟨some 4, .mv (.const (.int .i64 0)), none⟩]) .ret) .skip)) (.seq
    (.region [⟨some 4, .mv (.const (.int .i64 (-1))), none⟩]) .ret)) .skip)) (.seq (.seq (.region [⟨some 13, .mv (.tmp 6), none⟩]) (.cond (.tmp 13) (.seq (.region [⟨some 4, .mv
    (.const (.int .i64 1)), none⟩]) .ret) .skip)) (.seq (.seq (.region [⟨some 14, .mv (.tmp 0), none⟩, ⟨some 15, .mv (.tmp 1), none⟩, ⟨some 16, .bin .lss (.tmp 14) (.tmp 15),
    none⟩]) (.cond (.tmp 16) (.seq (.region [⟨some 4, .mv (.const (.int .i64 (-1))), none⟩]) .ret) .skip)) (.seq (.seq (.region [⟨some 17, .mv (.tmp 0), none⟩, ⟨some 18, .mv (.tmp
    1), none⟩, ⟨some 19, .bin .gtr (.tmp 17) (.tmp 18), none⟩]) (.cond (.tmp 19) (.seq (.region [⟨some 4, .mv (.const (.int .i64 1)), none⟩]) .ret) .skip)) (.seq (.region [⟨some 4,
    .mv (.const (.int .i64 0)), none⟩]) .ret))))))))
theorem low52 : lowF Try.prog [] Try.f52 = some (20, lc52.strip, [.tmp 4]) := by kernel_rfl
theorem fn52 : FnOk Try.prog 52 20 lc52 [.tmp 4] := ⟨Try.call52, [], _, Try.func52, low52⟩
/-- slices.Compare[[]int,int] -/
def lc53 : LCode :=
  (.seq (.region [⟨some 4, .mv (.const (.int .i64 0)), none⟩]) (.seq (.seq (.region [⟨some 9, .mv (.tmp 0), none⟩, ⟨some 10, .len (.tmp 9), none⟩, ⟨some 11, .mv (.const (.int .i64
    0)), none⟩]) (.block 0 (.loop (.seq (.region [⟨some 12, .bin .lss (.tmp 11) (.tmp 10), none⟩]) (.seq (.cond (.tmp 12) .skip (.exit 0)) (.seq (.block 1 (.seq (.region [⟨some 13,
    .mv (.tmp 11), none⟩, ⟨some 14, .idx 1 (.tmp 9) (.tmp 11), none⟩, ⟨some 15, .load false 1 (.tmp 14), none⟩, ⟨some 5, .mv (.tmp 13), none⟩, ⟨some 6, .mv (.tmp 15), none⟩]) (.seq
    (.seq (.region [⟨some 16, .mv (.tmp 5), none⟩, ⟨some 17, .mv (.tmp 1), none⟩, ⟨some 18, .len (.tmp 17), none⟩, ⟨some 19, .bin .geq (.tmp 16) (.tmp 18), none⟩]) (.cond (.tmp 19)
    (.seq (.region [⟨some 4, .mv (.const (.int .i64 1)), none⟩]) .ret) .skip)) (.seq (.region [⟨some 20, .mv (.tmp 1), none⟩, ⟨some 21, .mv (.tmp 5), none⟩, ⟨some 22, .idx 1 (.tmp
    20) (.tmp 21), none⟩, ⟨some 23, .load false 1 (.tmp 22), none⟩, ⟨some 7, .mv (.tmp 23), none⟩]) (.seq (.region [⟨some 24, .mv (.tmp 6), none⟩, ⟨some 25, .mv (.tmp 7), none⟩,
    ⟨some 26, .call (.func 52) [(.tmp 24), (.tmp 25)], none⟩, ⟨some 8, .mv (.tmp 26), none⟩]) (.seq (.region [⟨some 27, .mv (.tmp 8), none⟩, ⟨some 28, .bin .neq (.tmp 27) (.const
    (.int .i64 0)), none⟩]) (.cond (.tmp 28) (.seq (.region [⟨some 29, .mv (.tmp 8), none⟩, ⟨some 4, .mv (.tmp 29), none⟩]) .ret) .skip))))))) (.region [⟨some 30, .bin .add (.tmp
    11) (.const (.int .i64 1)), none⟩, ⟨some 11, .mv (.tmp 30), none⟩]))))))) (.seq (.seq (.region [⟨some 31, .mv (.tmp 0), none⟩, ⟨some 32, .len (.tmp 31), none⟩, ⟨some 33, .mv
    (.tmp 1), none⟩, ⟨some 34, .len (.tmp 33), none⟩, ⟨some 35, .bin .lss (.tmp 32) (.tmp 34), none⟩]) (.cond (.tmp 35) (.seq (.region [⟨some 4, .mv (.const (.int .i64 (-1))),
    none⟩]) .ret) .skip)) (.seq (.region [⟨some 4, .mv (.const (.int .i64 0)), none⟩]) .ret))))
theorem low53 : lowF Try.prog [] Try.f53 = some (36, lc53.strip, [.tmp 4]) := by kernel_rfl
theorem fn53 : FnOk Try.prog 53 36 lc53 [.tmp 4] := ⟨Try.call53, [], _, Try.func53, low53⟩
/-- slices.Index[[]int,int] -/
def lc54 : LCode :=
  (.seq (.region [⟨some 4, .mv (.const (.int .i64 0)), none⟩]) (.seq (.seq (.region [⟨some 6, .mv (.tmp 0), none⟩, ⟨some 7, .len (.tmp 6), none⟩, ⟨some 8, .mv (.const (.int .i64
    0)), none⟩]) (.block 0 (.loop (.seq (.region [⟨some 9, .bin .lss (.tmp 8) (.tmp 7), none⟩]) (.seq (.cond (.tmp 9) .skip (.exit 0)) (.seq (.block 1 (.seq (.region [⟨some 10, .mv
    (.tmp 8), none⟩, ⟨some 5, .mv (.tmp 10), none⟩]) (.seq (.region [⟨some 11, .mv (.tmp 1), none⟩, ⟨some 12, .mv (.tmp 0), none⟩, ⟨some 13, .mv (.tmp 5), none⟩, ⟨some 14, .idx 1
    (.tmp 12) (.tmp 13), none⟩, ⟨some 15, .load false 1 (.tmp 14), none⟩, ⟨some 16, .bin .eql (.tmp 11) (.tmp 15), none⟩]) (.cond (.tmp 16) (.seq (.region [⟨some 17, .mv (.tmp 5),
    none⟩, ⟨some 4, .mv (.tmp 17), none⟩]) .ret) .skip)))) (.region [⟨some 18, .bin .add (.tmp 8) (.const (.int .i64 1)), none⟩, ⟨some 8, .mv (.tmp 18), none⟩]))))))) (.seq (.region
    [⟨some 4, .mv (.const (.int .i64 (-1))), none⟩]) .ret)))
theorem low54 : lowF Try.prog [] Try.f54 = some (19, lc54.strip, [.tmp 4]) := by kernel_rfl
theorem fn54 : FnOk Try.prog 54 19 lc54 [.tmp 4] := ⟨Try.call54, [], _, Try.func54, low54⟩
/-- moonpool/sonar.counted -/
def lc56 : LCode :=
  (.seq (.region [⟨some 4, .mv (.const (.int .i64 0)), none⟩]) (.seq (.region [⟨some 5, .mv (.tmp 0), none⟩, ⟨some 6, .bin .gtr (.tmp 5) (.const (.int .i64 0)), none⟩, ⟨some 7,
    .call (.func 41) [(.tmp 6), (.const (.int .i64 10))], none⟩, ⟨some 8, .mv (.tmp 0), none⟩, ⟨some 9, .mv (.tmp 1), none⟩, ⟨some 10, .bin .leq (.tmp 8) (.tmp 9), none⟩, ⟨some 11,
    .call (.func 41) [(.tmp 10), (.const (.int .i64 8))], none⟩, ⟨some 12, .lit false 29 1 [(.tmp 7), (.tmp 11)], none⟩, ⟨some 13, .call (.func 40) [(.tmp 12)], none⟩, ⟨some 4, .mv
    (.tmp 13), none⟩]) .ret))
theorem low56 : lowF Try.prog [] Try.f56 = some (14, lc56.strip, [.tmp 4]) := by kernel_rfl
theorem fn56 : FnOk Try.prog 56 14 lc56 [.tmp 4] := ⟨Try.call56, [], _, Try.func56, low56⟩
/-- moonpool/sonar.CheckLayers$1 -/
def lc57 : LCode :=
  (.seq (.region [⟨some 2, .mv (.const (.bool false)), none⟩]) (.seq (.region [⟨some 3, .mv (.tmp 0), none⟩, ⟨some 4, .call (.func 42) [(.tmp 3), (.const (.int .i64 1)), (.const
    (.int .i64 100))], none⟩, ⟨some 2, .mv (.tmp 4), none⟩]) .ret))
theorem low57 : lowF Try.prog [] Try.f57 = some (5, lc57.strip, [.tmp 2]) := by kernel_rfl
theorem fn57 : FnOk Try.prog 57 5 lc57 [.tmp 2] := ⟨Try.call57, [], _, Try.func57, low57⟩
/-- moonpool/sonar.each[moonpool/api.SonarLayer] -/
def lc58 : LCode :=
  (.seq (.region [⟨some 4, .mv (.const (.int .i64 0)), none⟩, ⟨some 5, .mv (.const (.int .i64 0)), none⟩]) (.seq (.seq (.region [⟨some 9, .mv (.tmp 0), none⟩, ⟨some 10, .len (.tmp
    9), none⟩, ⟨some 11, .mv (.const (.int .i64 0)), none⟩]) (.block 0 (.loop (.seq (.region [⟨some 12, .bin .lss (.tmp 11) (.tmp 10), none⟩]) (.seq (.cond (.tmp 12) .skip (.exit
    0)) (.seq (.block 1 (.seq (.region [⟨some 13, .mv (.tmp 11), none⟩, ⟨some 14, .idx 3 (.tmp 9) (.tmp 11), none⟩, ⟨some 15, .load true 3 (.tmp 14), none⟩, ⟨some 7, .alloc [(.int
    .i64 0), (.int .i64 0), (.int .i64 0)], none⟩, ⟨some 6, .mv (.tmp 13), none⟩, ⟨none, .store 3 (.tmp 7) (.tmp 15), none⟩]) (.seq (.region [⟨some 16, .mv (.tmp 1), none⟩, ⟨some
    17, .mv (.tmp 6), none⟩, ⟨some 18, .load true 3 (.tmp 7), none⟩, ⟨some 19, .call (.tmp 16) [(.tmp 17), (.tmp 18)], none⟩, ⟨some 8, .mv (.tmp 19), none⟩]) (.seq (.region [⟨some
    20, .mv (.tmp 8), none⟩, ⟨some 21, .bin .neq (.tmp 20) (.const (.int .i64 0)), none⟩]) (.cond (.tmp 21) (.seq (.region [⟨some 22, .mv (.tmp 6), none⟩, ⟨some 23, .mv (.tmp 8),
    none⟩, ⟨some 4, .mv (.tmp 22), none⟩, ⟨some 5, .mv (.tmp 23), none⟩]) .ret) .skip))))) (.region [⟨some 24, .bin .add (.tmp 11) (.const (.int .i64 1)), none⟩, ⟨some 11, .mv (.tmp
    24), none⟩]))))))) (.seq (.region [⟨some 4, .mv (.const (.int .i64 0)), none⟩, ⟨some 5, .mv (.const (.int .i64 0)), none⟩]) .ret)))
theorem low58 : lowF Try.prog [] Try.f58 = some (25, lc58.strip, [.tmp 4, .tmp 5]) := by kernel_rfl
theorem fn58 : FnOk Try.prog 58 25 lc58 [.tmp 4, .tmp 5] := ⟨Try.call58, [], _, Try.func58, low58⟩
/-- moonpool/sonar.CheckLayers$2 -/
def lc59 : LCode :=
  (.seq (.region [⟨some 4, .boxS (.tmp 1), none⟩, ⟨some 5, .mv (.const (.int .i64 0)), none⟩]) (.seq (.region [⟨some 7, .fld 0 (.tmp 4), none⟩, ⟨some 8, .load false 1 (.tmp 7),
    none⟩, ⟨some 9, .call (.func 42) [(.tmp 8), (.const (.int .i64 1)), (.const (.int .i64 10000))], none⟩, ⟨some 10, .mv (.tmp 9), none⟩, ⟨some 11, .load false 1 (.tmp 2), some
    (10, true)⟩, ⟨some 12, .fld 1 (.tmp 4), some (10, true)⟩, ⟨some 13, .fld 0 (.tmp 12), some (10, true)⟩, ⟨some 14, .load false 1 (.tmp 13), some (10, true)⟩, ⟨some 15, .call
    (.tmp 11) [(.tmp 14)], some (10, true)⟩, ⟨some 16, .pick (.tmp 10) (.tmp 15) (.const (.bool false)), none⟩, ⟨some 17, .mv (.tmp 16), none⟩, ⟨some 18, .load false 1 (.tmp 2),
    some (17, true)⟩, ⟨some 19, .fld 1 (.tmp 4), some (17, true)⟩, ⟨some 20, .fld 1 (.tmp 19), some (17, true)⟩, ⟨some 21, .load false 1 (.tmp 20), some (17, true)⟩, ⟨some 22, .call
    (.tmp 18) [(.tmp 21)], some (17, true)⟩, ⟨some 23, .pick (.tmp 17) (.tmp 22) (.const (.bool false)), none⟩, ⟨some 6, .mv (.tmp 23), none⟩]) (.seq (.regionD [⟨some 24, .mv (.tmp
    6), none⟩, ⟨some 25, .call (.func 41) [(.tmp 24), (.const (.int .i64 2))], none⟩, ⟨some 26, .fld 1 (.tmp 4), none⟩, ⟨some 27, .fld 0 (.tmp 26), none⟩, ⟨some 28, .load false 1
    (.tmp 27), none⟩, ⟨some 29, .fld 1 (.tmp 4), none⟩, ⟨some 30, .fld 1 (.tmp 29), none⟩, ⟨some 31, .load false 1 (.tmp 30), none⟩, ⟨some 32, .bin .leq (.tmp 28) (.tmp 31), none⟩,
    ⟨some 33, .call (.func 41) [(.tmp 32), (.const (.int .i64 9))], none⟩, ⟨some 34, .lit false 29 1 [(.tmp 25), (.tmp 33)], none⟩, ⟨some 35, .call (.func 40) [(.tmp 34)], none⟩,
    ⟨some 5, .mv (.tmp 35), none⟩] [0, 1, 0, 4, 12, 0, 32, 96, 252, 511, 1023, 2047, 4095] [0, 1, 2, 3, 4, 5, 6, 7, 8, 9, 10, 11, 12]) .ret)))
theorem low59 : lowF Try.prog [4] Try.f59 = some (36, lc59.strip, [.tmp 5]) := by kernel_rfl
theorem fn59 : FnOk Try.prog 59 36 lc59 [.tmp 5] := ⟨Try.call59, [4], _, Try.func59, low59⟩
/-- moonpool/sonar.divisor -/
def lc60 : LCode :=
  (.seq (.region [⟨some 4, .mv (.const (.int .i64 0)), none⟩]) (.seq (.block 0 (.loop (.seq (.seq (.region [⟨some 5, .mv (.tmp 1), none⟩, ⟨some 6, .bin .neq (.tmp 5) (.const (.int
    .i64 0)), none⟩]) (.cond (.tmp 6) .skip (.exit 0))) (.block 1 (.regionD [⟨some 7, .mv (.tmp 1), none⟩, ⟨some 8, .mv (.tmp 0), none⟩, ⟨some 9, .mv (.tmp 1), none⟩, ⟨some 10, .bin
    .rem (.tmp 8) (.tmp 9), none⟩, ⟨some 0, .mv (.tmp 7), none⟩, ⟨some 1, .mv (.tmp 10), none⟩] [0, 0, 0, 6, 3, 31] [0, 1, 2, 3, 4, 5]))))) (.seq (.region [⟨some 11, .mv (.tmp 0),
    none⟩, ⟨some 4, .mv (.tmp 11), none⟩]) .ret)))
theorem low60 : lowF Try.prog [] Try.f60 = some (12, lc60.strip, [.tmp 4]) := by kernel_rfl
theorem fn60 : FnOk Try.prog 60 12 lc60 [.tmp 4] := ⟨Try.call60, [], _, Try.func60, low60⟩
end Go.Pw

set_option linter.unusedVariables false
set_option maxHeartbeats 2000000
set_option maxRecDepth 100000
namespace Go.Pw
open Go Go.Proofs
/-- moonpool/sonar.CheckDevices -/
def lc61 : LCode :=
  (.seq (.region [⟨some 2, .mv (.const (.int .i64 0)), none⟩, ⟨some 3, .mv (.const (.int .i64 0)), none⟩]) (.seq (.seq (.region [⟨some 5, .mv (.tmp 0), none⟩, ⟨some 6, .len (.tmp
    5), none⟩, ⟨some 7, .call (.func 56) [(.tmp 6), (.const (.int .i64 5))], none⟩, ⟨some 4, .mv (.tmp 7), none⟩]) (.seq (.region [⟨some 8, .mv (.tmp 4), none⟩, ⟨some 9, .bin .neq
    (.tmp 8) (.const (.int .i64 0)), none⟩]) (.cond (.tmp 9) (.seq (.region [⟨some 10, .mv (.tmp 4), none⟩, ⟨some 2, .mv (.const (.int .i64 0)), none⟩, ⟨some 3, .mv (.tmp 10),
    none⟩]) .ret) .skip))) (.seq (.region [⟨some 11, .mv (.tmp 0), none⟩, ⟨some 12, .call (.func 73) [(.tmp 11), (.func 74)], none⟩, ⟨some 13, .ext (.tmp 12) 0, none⟩, ⟨some 14,
    .ext (.tmp 12) 1, none⟩, ⟨some 2, .mv (.tmp 13), none⟩, ⟨some 3, .mv (.tmp 14), none⟩]) .ret)))
theorem low61 : lowF Try.prog [] Try.f61 = some (15, lc61.strip, [.tmp 2, .tmp 3]) := by kernel_rfl
theorem fn61 : FnOk Try.prog 61 15 lc61 [.tmp 2, .tmp 3] := ⟨Try.call61, [], _, Try.func61, low61⟩
/-- moonpool/sonar.size -/
def lc62 : LCode :=
  (.seq (.region [⟨some 2, .mv (.const (.int .i64 0)), none⟩]) (.seq (.region [⟨some 3, .mv (.tmp 0), none⟩, ⟨some 4, .mv (.tmp 0), none⟩, ⟨some 5, .un .neg (.tmp 4), none⟩, ⟨some
    6, .mm true [(.tmp 3), (.tmp 5)], none⟩, ⟨some 2, .mv (.tmp 6), none⟩]) .ret))
theorem low62 : lowF Try.prog [] Try.f62 = some (7, lc62.strip, [.tmp 2]) := by kernel_rfl
theorem fn62 : FnOk Try.prog 62 7 lc62 [.tmp 2] := ⟨Try.call62, [], _, Try.func62, low62⟩
/-- slices.Clip[[]int,int] -/
def lc63 : LCode :=
  (.seq (.region [⟨some 2, .mv (.const (.slice none 0 0)), none⟩]) (.seq (.region [⟨some 3, .mv (.tmp 0), none⟩, ⟨some 4, .mv (.tmp 0), none⟩, ⟨some 5, .len (.tmp 4), none⟩, ⟨some
    6, .mv (.tmp 0), none⟩, ⟨some 7, .len (.tmp 6), none⟩, ⟨some 8, .clip 1 (.tmp 3) (.tmp 5) (.tmp 7), none⟩, ⟨some 2, .mv (.tmp 8), none⟩]) .ret))
theorem low63 : lowF Try.prog [] Try.f63 = some (9, lc63.strip, [.tmp 2]) := by kernel_rfl
theorem fn63 : FnOk Try.prog 63 9 lc63 [.tmp 2] := ⟨Try.call63, [], _, Try.func63, low63⟩
/-- moonpool/sonar.blind -/
def lc64 : LCode :=
  (.seq (.region [⟨some 10, .mv (.const (.bool false)), none⟩]) (.seq (.seq (.region [⟨some 11, .mv (.tmp 2), none⟩, ⟨some 12, .mv (.tmp 3), none⟩, ⟨some 13, .bin .eql (.tmp 11)
    (.tmp 12), none⟩]) (.cond (.tmp 13) (.seq (.region [⟨some 14, .mv (.tmp 0), none⟩, ⟨some 15, .mv (.tmp 2), none⟩, ⟨some 16, .idx 3 (.tmp 14) (.tmp 15), none⟩, ⟨some 17, .load
    true 3 (.tmp 16), none⟩, ⟨some 18, .call (.func 47) [(.tmp 17)], none⟩, ⟨some 19, .mv (.tmp 4), none⟩, ⟨some 20, .bin .gtr (.tmp 18) (.tmp 19), none⟩, ⟨some 10, .mv (.tmp 20),
    none⟩]) .ret) .skip)) (.seq (.regionD [⟨some 21, .mv (.tmp 0), none⟩, ⟨some 22, .mv (.tmp 2), none⟩, ⟨some 23, .idx 3 (.tmp 21) (.tmp 22), none⟩, ⟨some 24, .load true 3 (.tmp
    23), none⟩, ⟨some 25, .mv (.tmp 0), none⟩, ⟨some 26, .mv (.tmp 3), none⟩, ⟨some 27, .idx 3 (.tmp 25) (.tmp 26), none⟩, ⟨some 28, .load true 3 (.tmp 27), none⟩, ⟨some 29, .call
    (.func 46) [(.tmp 24), (.tmp 28)], none⟩, ⟨some 30, .mv (.tmp 29), none⟩, ⟨some 31, .mv (.tmp 0), some (30, true)⟩, ⟨some 32, .mv (.tmp 2), some (30, true)⟩, ⟨some 33, .idx 3
    (.tmp 31) (.tmp 32), some (30, true)⟩, ⟨some 34, .load true 3 (.tmp 33), some (30, true)⟩, ⟨some 35, .mv (.tmp 0), some (30, true)⟩, ⟨some 36, .mv (.tmp 3), some (30, true)⟩,
    ⟨some 37, .idx 3 (.tmp 35) (.tmp 36), some (30, true)⟩, ⟨some 38, .load true 3 (.tmp 37), some (30, true)⟩, ⟨some 39, .mv (.tmp 1), some (30, true)⟩, ⟨some 40, .mv (.tmp 2),
    some (30, true)⟩, ⟨some 41, .idx 1 (.tmp 39) (.tmp 40), some (30, true)⟩, ⟨some 42, .load false 1 (.tmp 41), some (30, true)⟩, ⟨some 43, .mv (.tmp 1), some (30, true)⟩, ⟨some
    44, .mv (.tmp 3), some (30, true)⟩, ⟨some 45, .idx 1 (.tmp 43) (.tmp 44), some (30, true)⟩, ⟨some 46, .load false 1 (.tmp 45), some (30, true)⟩, ⟨some 47, .mv (.tmp 4), some
    (30, true)⟩, ⟨some 48, .call (.func 75) [(.tmp 34), (.tmp 38), (.tmp 42), (.tmp 46), (.tmp 47)], some (30, true)⟩, ⟨some 49, .pick (.tmp 30) (.tmp 48) (.const (.bool false)),
    none⟩, ⟨some 10, .mv (.tmp 49), none⟩] [0, 0, 3, 7, 0, 0, 48, 112, 255, 511, 1023, 1023, 4095, 8191, 1023, 1023, 50175, 115711, 1023, 1023, 787455, 1836031, 1023, 1023,
    12583935, 29361151, 1023, 134217727, 268435455, 536870911] [0, 1, 2, 3, 4, 5, 6, 7, 8, 9, 10, 11, 12, 13, 14, 15, 16, 17, 18, 19, 20, 21, 22, 23, 24, 25, 26, 27, 28, 29])
    .ret)))
theorem low64 : lowF Try.prog [] Try.f64 = some (50, lc64.strip, [.tmp 10]) := by kernel_rfl
theorem fn64 : FnOk Try.prog 64 50 lc64 [.tmp 10] := ⟨Try.call64, [], _, Try.func64, low64⟩
/-- moonpool/sonar.gridErr -/
def lc65 : LCode :=
  (.seq (.region [⟨some 6, .mv (.const (.int .i64 0)), none⟩]) (.seq (.region [⟨some 7, .mv (.func 76), none⟩]) (.seq (.region [⟨some 8, .mv (.tmp 7), none⟩, ⟨some 9, .mv (.tmp 0),
    none⟩, ⟨some 10, .call (.tmp 8) [(.tmp 9)], none⟩, ⟨some 11, .mv (.tmp 10), none⟩, ⟨some 12, .mv (.tmp 7), some (11, true)⟩, ⟨some 13, .mv (.tmp 1), some (11, true)⟩, ⟨some 14,
    .call (.tmp 12) [(.tmp 13)], some (11, true)⟩, ⟨some 15, .pick (.tmp 11) (.tmp 14) (.const (.bool false)), none⟩, ⟨some 16, .call (.func 41) [(.tmp 15), (.const (.int .i64 2))],
    none⟩, ⟨some 17, .mv (.tmp 2), none⟩, ⟨some 18, .bin .leq (.tmp 17) (.const (.int .i64 10)), none⟩, ⟨some 19, .call (.func 41) [(.tmp 18), (.const (.int .i64 8))], none⟩, ⟨some
    20, .lit false 29 1 [(.tmp 16), (.tmp 19)], none⟩, ⟨some 21, .call (.func 40) [(.tmp 20)], none⟩, ⟨some 6, .mv (.tmp 21), none⟩]) .ret)))
theorem low65 : lowF Try.prog [] Try.f65 = some (22, lc65.strip, [.tmp 6]) := by kernel_rfl
theorem fn65 : FnOk Try.prog 65 22 lc65 [.tmp 6] := ⟨Try.call65, [], _, Try.func65, low65⟩
/-- moonpool/sonar.each[moonpool/api.SonarRay] -/
def lc66 : LCode :=
  (.seq (.region [⟨some 4, .mv (.const (.int .i64 0)), none⟩, ⟨some 5, .mv (.const (.int .i64 0)), none⟩]) (.seq (.seq (.region [⟨some 9, .mv (.tmp 0), none⟩, ⟨some 10, .len (.tmp
    9), none⟩, ⟨some 11, .mv (.const (.int .i64 0)), none⟩]) (.block 0 (.loop (.seq (.region [⟨some 12, .bin .lss (.tmp 11) (.tmp 10), none⟩]) (.seq (.cond (.tmp 12) .skip (.exit
    0)) (.seq (.block 1 (.seq (.region [⟨some 13, .mv (.tmp 11), none⟩, ⟨some 14, .idx 5 (.tmp 9) (.tmp 11), none⟩, ⟨some 15, .load true 5 (.tmp 14), none⟩, ⟨some 7, .alloc [(.int
    .i64 0), (.int .i64 0), (.int .i64 0), (.int .i64 0), (.bool false)], none⟩, ⟨some 6, .mv (.tmp 13), none⟩, ⟨none, .store 5 (.tmp 7) (.tmp 15), none⟩]) (.seq (.region [⟨some 16,
    .mv (.tmp 1), none⟩, ⟨some 17, .mv (.tmp 6), none⟩, ⟨some 18, .load true 5 (.tmp 7), none⟩, ⟨some 19, .call (.tmp 16) [(.tmp 17), (.tmp 18)], none⟩, ⟨some 8, .mv (.tmp 19),
    none⟩]) (.seq (.region [⟨some 20, .mv (.tmp 8), none⟩, ⟨some 21, .bin .neq (.tmp 20) (.const (.int .i64 0)), none⟩]) (.cond (.tmp 21) (.seq (.region [⟨some 22, .mv (.tmp 6),
    none⟩, ⟨some 23, .mv (.tmp 8), none⟩, ⟨some 4, .mv (.tmp 22), none⟩, ⟨some 5, .mv (.tmp 23), none⟩]) .ret) .skip))))) (.region [⟨some 24, .bin .add (.tmp 11) (.const (.int .i64
    1)), none⟩, ⟨some 11, .mv (.tmp 24), none⟩]))))))) (.seq (.region [⟨some 4, .mv (.const (.int .i64 0)), none⟩, ⟨some 5, .mv (.const (.int .i64 0)), none⟩]) .ret)))
theorem low66 : lowF Try.prog [] Try.f66 = some (25, lc66.strip, [.tmp 4, .tmp 5]) := by kernel_rfl
theorem fn66 : FnOk Try.prog 66 25 lc66 [.tmp 4, .tmp 5] := ⟨Try.call66, [], _, Try.func66, low66⟩
/-- moonpool/sonar.CheckScene$1 -/
def lc67 : LCode :=
  (.seq (.region [⟨some 4, .boxS (.tmp 1), none⟩, ⟨some 5, .mv (.const (.int .i64 0)), none⟩]) (.seq (.region [⟨some 6, .load true 5 (.tmp 4), none⟩, ⟨some 7, .fld 0 (.tmp 2),
    none⟩, ⟨some 8, .load false 1 (.tmp 7), none⟩, ⟨some 9, .fld 1 (.tmp 2), none⟩, ⟨some 10, .load false 1 (.tmp 9), none⟩, ⟨some 11, .call (.func 68) [(.tmp 6), (.tmp 8), (.tmp
    10)], none⟩, ⟨some 5, .mv (.tmp 11), none⟩]) .ret))
theorem low67 : lowF Try.prog [4] Try.f67 = some (12, lc67.strip, [.tmp 5]) := by kernel_rfl
theorem fn67 : FnOk Try.prog 67 12 lc67 [.tmp 5] := ⟨Try.call67, [4], _, Try.func67, low67⟩
/-- moonpool/sonar.rayErr -/
def lc68 : LCode :=
  (.seq (.region [⟨some 3, .boxS (.tmp 0), none⟩, ⟨some 6, .mv (.const (.int .i64 0)), none⟩]) (.seq (.region [⟨some 7, .fld 0 (.tmp 3), none⟩, ⟨some 8, .load true 2 (.tmp 7),
    none⟩, ⟨some 9, .mv (.tmp 1), none⟩, ⟨some 10, .mv (.tmp 2), none⟩, ⟨some 11, .call (.func 77) [(.tmp 8), (.tmp 9), (.tmp 10)], none⟩, ⟨some 12, .mv (.tmp 11), none⟩, ⟨some 13,
    .fld 2 (.tmp 3), some (12, true)⟩, ⟨some 14, .load true 2 (.tmp 13), some (12, true)⟩, ⟨some 15, .mv (.tmp 1), some (12, true)⟩, ⟨some 16, .mv (.tmp 2), some (12, true)⟩, ⟨some
    17, .call (.func 77) [(.tmp 14), (.tmp 15), (.tmp 16)], some (12, true)⟩, ⟨some 18, .pick (.tmp 12) (.tmp 17) (.const (.bool false)), none⟩, ⟨some 19, .call (.func 41) [(.tmp
    18), (.const (.int .i64 6))], none⟩, ⟨some 6, .mv (.tmp 19), none⟩]) .ret))
theorem low68 : lowF Try.prog [3] Try.f68 = some (20, lc68.strip, [.tmp 6]) := by kernel_rfl
theorem fn68 : FnOk Try.prog 68 20 lc68 [.tmp 6] := ⟨Try.call68, [3], _, Try.func68, low68⟩
/-- cmp.isNaN[int] -/
def lc69 : LCode :=
  (.seq (.region [⟨some 2, .mv (.const (.bool false)), none⟩]) (.seq (.region [⟨some 3, .mv (.tmp 0), none⟩, ⟨some 4, .mv (.tmp 0), none⟩, ⟨some 5, .bin .neq (.tmp 3) (.tmp 4),
    none⟩, ⟨some 2, .mv (.tmp 5), none⟩]) .ret))
theorem low69 : lowF Try.prog [] Try.f69 = some (6, lc69.strip, [.tmp 2]) := by kernel_rfl
theorem fn69 : FnOk Try.prog 69 6 lc69 [.tmp 2] := ⟨Try.call69, [], _, Try.func69, low69⟩
/-- moonpool/sonar.said$1 -/
def lc70 : LCode :=
  (.seq (.region [⟨some 7, .load true 5 (.tmp 1), none⟩, ⟨some 8, .call (.func 71) [(.tmp 7)], none⟩, ⟨some 9, .len (.tmp 8), none⟩, ⟨some 10, .mv (.const (.int .i64 0)), none⟩])
    (.block 0 (.loop (.seq (.region [⟨some 11, .bin .lss (.tmp 10) (.tmp 9), none⟩]) (.seq (.cond (.tmp 11) .skip (.exit 0)) (.seq (.block 1 (.seq (.region [⟨some 12, .idx 2 (.tmp
    8) (.tmp 10), none⟩, ⟨some 13, .load true 2 (.tmp 12), none⟩, ⟨some 5, .alloc [(.int .i64 0), (.int .i64 0)], none⟩, ⟨none, .store 2 (.tmp 5) (.tmp 13), none⟩]) (.seq (.region
    [⟨some 6, .mv (.const (.int .i64 1)), none⟩]) (.seq (.seq (.region [⟨some 14, .load true 2 (.tmp 5), none⟩, ⟨some 15, .fld 2 (.tmp 1), none⟩, ⟨some 16, .load true 2 (.tmp 15),
    none⟩, ⟨some 17, .eqA false [false, false] (.tmp 14) (.tmp 16), none⟩, ⟨some 18, .mv (.tmp 17), none⟩, ⟨some 19, .fld 4 (.tmp 1), some (18, true)⟩, ⟨some 20, .load false 1 (.tmp
    19), some (18, true)⟩, ⟨some 21, .pick (.tmp 18) (.tmp 20) (.const (.bool false)), none⟩]) (.cond (.tmp 21) (.region [⟨some 6, .mv (.const (.int .i64 2)), none⟩]) .skip)) (.seq
    (.region [⟨some 22, .mv (.tmp 0), none⟩, ⟨some 23, .load true 2 (.tmp 5), none⟩, ⟨some 24, .load false 1 (.tmp 2), none⟩, ⟨some 25, .call (.func 72) [(.tmp 23), (.tmp 24)],
    none⟩, ⟨some 26, .mv (.tmp 6), none⟩, ⟨some 27, .build [(.int .i64 0), (.int .i64 0)] [(0, 1, (.tmp 25)), (1, 1, (.tmp 26))], none⟩, ⟨some 28, .call (.tmp 22) [(.tmp 27)],
    none⟩, ⟨some 29, .un .not (.tmp 28), none⟩]) (.cond (.tmp 29) .ret .skip)))))) (.region [⟨some 30, .bin .add (.tmp 10) (.const (.int .i64 1)), none⟩, ⟨some 10, .mv (.tmp 30),
    none⟩])))))))
theorem low70 : lowF Try.prog [] Try.f70 = some (31, lc70.strip, []) := by kernel_rfl
theorem fn70 : FnOk Try.prog 70 31 lc70 [] := ⟨Try.call70, [], _, Try.func70, low70⟩
/-- moonpool/sonar.crossed -/
def lc71 : LCode :=
  (.seq (.region [⟨some 1, .boxS (.tmp 0), none⟩, ⟨some 2, .mv (.const (.slice none 0 0)), none⟩]) (.seq (.regionD [⟨some 9, .fld 2 (.tmp 1), none⟩, ⟨some 10, .fld 0 (.tmp 9),
    none⟩, ⟨some 11, .load false 1 (.tmp 10), none⟩, ⟨some 12, .fld 0 (.tmp 1), none⟩, ⟨some 13, .fld 0 (.tmp 12), none⟩, ⟨some 14, .load false 1 (.tmp 13), none⟩, ⟨some 15, .bin
    .sub (.tmp 11) (.tmp 14), none⟩, ⟨some 16, .fld 2 (.tmp 1), none⟩, ⟨some 17, .fld 1 (.tmp 16), none⟩, ⟨some 18, .load false 1 (.tmp 17), none⟩, ⟨some 19, .fld 0 (.tmp 1), none⟩,
    ⟨some 20, .fld 1 (.tmp 19), none⟩, ⟨some 21, .load false 1 (.tmp 20), none⟩, ⟨some 22, .bin .sub (.tmp 18) (.tmp 21), none⟩, ⟨some 3, .mv (.tmp 15), none⟩, ⟨some 4, .mv (.tmp
    22), none⟩] [0, 1, 3, 0, 8, 24, 63, 0, 128, 384, 0, 1024, 3072, 8064, 127, 32767] [0, 1, 2, 3, 4, 5, 6, 7, 8, 9, 10, 11, 12, 13, 14, 15]) (.seq (.region [⟨some 5, .mv (.const
    (.slice none 0 0)), none⟩]) (.seq (.seq (.region [⟨some 23, .fld 0 (.tmp 1), none⟩, ⟨some 24, .fld 1 (.tmp 23), none⟩, ⟨some 25, .load false 1 (.tmp 24), none⟩, ⟨some 26, .fld 2
    (.tmp 1), none⟩, ⟨some 27, .fld 1 (.tmp 26), none⟩, ⟨some 28, .load false 1 (.tmp 27), none⟩, ⟨some 29, .mm false [(.tmp 25), (.tmp 28)], none⟩, ⟨some 6, .mv (.tmp 29), none⟩])
    (.block 0 (.loop (.seq (.seq (.region [⟨some 30, .mv (.tmp 6), none⟩, ⟨some 31, .fld 0 (.tmp 1), none⟩, ⟨some 32, .fld 1 (.tmp 31), none⟩, ⟨some 33, .load false 1 (.tmp 32),
    none⟩, ⟨some 34, .fld 2 (.tmp 1), none⟩, ⟨some 35, .fld 1 (.tmp 34), none⟩, ⟨some 36, .load false 1 (.tmp 35), none⟩, ⟨some 37, .mm true [(.tmp 33), (.tmp 36)], none⟩, ⟨some 38,
    .bin .leq (.tmp 30) (.tmp 37), none⟩]) (.cond (.tmp 38) .skip (.exit 0))) (.seq (.block 1 (.seq (.region [⟨some 41, .fld 0 (.tmp 1), none⟩, ⟨some 42, .fld 0 (.tmp 41), none⟩,
    ⟨some 43, .load false 1 (.tmp 42), none⟩, ⟨some 44, .fld 2 (.tmp 1), none⟩, ⟨some 45, .fld 0 (.tmp 44), none⟩, ⟨some 46, .load false 1 (.tmp 45), none⟩, ⟨some 47, .mm false
    [(.tmp 43), (.tmp 46)], none⟩, ⟨some 7, .mv (.tmp 47), none⟩]) (.block 2 (.loop (.seq (.seq (.region [⟨some 48, .mv (.tmp 7), none⟩, ⟨some 49, .fld 0 (.tmp 1), none⟩, ⟨some 50,
    .fld 0 (.tmp 49), none⟩, ⟨some 51, .load false 1 (.tmp 50), none⟩, ⟨some 52, .fld 2 (.tmp 1), none⟩, ⟨some 53, .fld 0 (.tmp 52), none⟩, ⟨some 54, .load false 1 (.tmp 53), none⟩,
    ⟨some 55, .mm true [(.tmp 51), (.tmp 54)], none⟩, ⟨some 56, .bin .leq (.tmp 48) (.tmp 55), none⟩]) (.cond (.tmp 56) .skip (.exit 2))) (.seq (.block 3 (.seq (.region [⟨some 59,
    .mv (.tmp 3), none⟩, ⟨some 60, .bin .mul (.tmp 59) (.const (.int .i64 2)), none⟩, ⟨some 61, .mv (.tmp 6), none⟩, ⟨some 62, .fld 0 (.tmp 1), none⟩, ⟨some 63, .fld 1 (.tmp 62),
    none⟩, ⟨some 64, .load false 1 (.tmp 63), none⟩, ⟨some 65, .bin .sub (.tmp 61) (.tmp 64), none⟩, ⟨some 66, .bin .mul (.tmp 60) (.tmp 65), none⟩, ⟨some 67, .mv (.tmp 4), none⟩,
    ⟨some 68, .bin .mul (.tmp 67) (.const (.int .i64 2)), none⟩, ⟨some 69, .mv (.tmp 7), none⟩, ⟨some 70, .fld 0 (.tmp 1), none⟩, ⟨some 71, .fld 0 (.tmp 70), none⟩, ⟨some 72, .load
    false 1 (.tmp 71), none⟩, ⟨some 73, .bin .sub (.tmp 69) (.tmp 72), none⟩, ⟨some 74, .bin .mul (.tmp 68) (.tmp 73), none⟩, ⟨some 75, .bin .sub (.tmp 66) (.tmp 74), none⟩, ⟨some
    8, .mv (.tmp 75), none⟩]) (.seq (.region [⟨some 76, .mv (.tmp 8), none⟩, ⟨some 77, .call (.func 62) [(.tmp 76)], none⟩, ⟨some 78, .mv (.tmp 3), none⟩, ⟨some 79, .call (.func 62)
    [(.tmp 78)], none⟩, ⟨some 80, .mv (.tmp 4), none⟩, ⟨some 81, .call (.func 62) [(.tmp 80)], none⟩, ⟨some 82, .bin .add (.tmp 79) (.tmp 81), none⟩, ⟨some 83, .bin .lss (.tmp 77)
    (.tmp 82), none⟩, ⟨some 84, .mv (.tmp 83), none⟩, ⟨some 85, .mv (.tmp 3), some (84, false)⟩, ⟨some 86, .bin .eql (.tmp 85) (.const (.int .i64 0)), some (84, false)⟩, ⟨some 87,
    .mv (.tmp 86), some (84, false)⟩, ⟨some 88, .mv (.tmp 4), some (87, true)⟩, ⟨some 89, .bin .eql (.tmp 88) (.const (.int .i64 0)), some (87, true)⟩, ⟨some 90, .pick (.tmp 87)
    (.tmp 89) (.const (.bool false)), some (84, false)⟩, ⟨some 91, .pick (.tmp 84) (.const (.bool true)) (.tmp 90), none⟩]) (.cond (.tmp 91) (.region [⟨some 92, .mv (.tmp 5), none⟩,
    ⟨some 93, .mv (.tmp 7), none⟩, ⟨some 94, .mv (.tmp 6), none⟩, ⟨some 95, .build [(.int .i64 0), (.int .i64 0)] [(0, 1, (.tmp 93)), (1, 1, (.tmp 94))], none⟩, ⟨some 96, .lit false
    74 2 [(.tmp 95)], none⟩, ⟨some 97, .append true 74 2 16 (.tmp 92) (.tmp 96), none⟩, ⟨some 5, .mv (.tmp 97), none⟩]) .skip)))) (.region [⟨some 57, .mv (.tmp 7), none⟩, ⟨some 58,
    .bin .add (.tmp 57) (.const (.int .i64 1)), none⟩, ⟨some 7, .mv (.tmp 58), none⟩]))))))) (.region [⟨some 39, .mv (.tmp 6), none⟩, ⟨some 40, .bin .add (.tmp 39) (.const (.int
    .i64 1)), none⟩, ⟨some 6, .mv (.tmp 40), none⟩])))))) (.seq (.region [⟨some 98, .mv (.tmp 5), none⟩, ⟨some 2, .mv (.tmp 98), none⟩]) .ret)))))
theorem low71 : lowF Try.prog [1, 97] Try.f71 = some (99, lc71.strip, [.tmp 2]) := by kernel_rfl
theorem fn71 : FnOk Try.prog 71 99 lc71 [.tmp 2] := ⟨Try.call71, [1, 97], _, Try.func71, low71⟩
/-- moonpool/sonar.cell -/
def lc72 : LCode :=
  (.seq (.region [⟨some 2, .boxS (.tmp 0), none⟩, ⟨some 4, .mv (.const (.int .i64 0)), none⟩]) (.seq (.region [⟨some 5, .fld 1 (.tmp 2), none⟩, ⟨some 6, .load false 1 (.tmp 5),
    none⟩, ⟨some 7, .mv (.tmp 1), none⟩, ⟨some 8, .bin .mul (.tmp 6) (.tmp 7), none⟩, ⟨some 9, .fld 0 (.tmp 2), none⟩, ⟨some 10, .load false 1 (.tmp 9), none⟩, ⟨some 11, .bin .add
    (.tmp 8) (.tmp 10), none⟩, ⟨some 4, .mv (.tmp 11), none⟩]) .ret))
theorem low72 : lowF Try.prog [2] Try.f72 = some (12, lc72.strip, [.tmp 4]) := by kernel_rfl
theorem fn72 : FnOk Try.prog 72 12 lc72 [.tmp 4] := ⟨Try.call72, [2], _, Try.func72, low72⟩
/-- moonpool/sonar.each[moonpool/api.SonarDevice] -/
def lc73 : LCode :=
  (.seq (.region [⟨some 4, .mv (.const (.int .i64 0)), none⟩, ⟨some 5, .mv (.const (.int .i64 0)), none⟩]) (.seq (.seq (.region [⟨some 9, .mv (.tmp 0), none⟩, ⟨some 10, .len (.tmp
    9), none⟩, ⟨some 11, .mv (.const (.int .i64 0)), none⟩]) (.block 0 (.loop (.seq (.region [⟨some 12, .bin .lss (.tmp 11) (.tmp 10), none⟩]) (.seq (.cond (.tmp 12) .skip (.exit
    0)) (.seq (.block 1 (.seq (.region [⟨some 13, .mv (.tmp 11), none⟩, ⟨some 14, .idx 3 (.tmp 9) (.tmp 11), none⟩, ⟨some 15, .load true 3 (.tmp 14), none⟩, ⟨some 7, .alloc [(.int
    .i64 0), (.int .i64 0), (.int .i64 0)], none⟩, ⟨some 6, .mv (.tmp 13), none⟩, ⟨none, .store 3 (.tmp 7) (.tmp 15), none⟩]) (.seq (.region [⟨some 16, .mv (.tmp 1), none⟩, ⟨some
    17, .mv (.tmp 6), none⟩, ⟨some 18, .load true 3 (.tmp 7), none⟩, ⟨some 19, .call (.tmp 16) [(.tmp 17), (.tmp 18)], none⟩, ⟨some 8, .mv (.tmp 19), none⟩]) (.seq (.region [⟨some
    20, .mv (.tmp 8), none⟩, ⟨some 21, .bin .neq (.tmp 20) (.const (.int .i64 0)), none⟩]) (.cond (.tmp 21) (.seq (.region [⟨some 22, .mv (.tmp 6), none⟩, ⟨some 23, .mv (.tmp 8),
    none⟩, ⟨some 4, .mv (.tmp 22), none⟩, ⟨some 5, .mv (.tmp 23), none⟩]) .ret) .skip))))) (.region [⟨some 24, .bin .add (.tmp 11) (.const (.int .i64 1)), none⟩, ⟨some 11, .mv (.tmp
    24), none⟩]))))))) (.seq (.region [⟨some 4, .mv (.const (.int .i64 0)), none⟩, ⟨some 5, .mv (.const (.int .i64 0)), none⟩]) .ret)))
theorem low73 : lowF Try.prog [] Try.f73 = some (25, lc73.strip, [.tmp 4, .tmp 5]) := by kernel_rfl
theorem fn73 : FnOk Try.prog 73 25 lc73 [.tmp 4, .tmp 5] := ⟨Try.call73, [], _, Try.func73, low73⟩
/-- moonpool/sonar.CheckDevices$1 -/
def lc74 : LCode :=
  (.seq (.region [⟨some 3, .boxS (.tmp 1), none⟩, ⟨some 4, .mv (.const (.int .i64 0)), none⟩]) (.seq (.region [⟨some 6, .fld 0 (.tmp 3), none⟩, ⟨some 7, .load false 1 (.tmp 6),
    none⟩, ⟨some 8, .call (.func 42) [(.tmp 7), (.const (.int .i64 0)), (.const (.int .i64 20))], none⟩, ⟨some 9, .mv (.tmp 8), none⟩, ⟨some 10, .fld 1 (.tmp 3), some (9, true)⟩,
    ⟨some 11, .load false 1 (.tmp 10), some (9, true)⟩, ⟨some 12, .call (.func 42) [(.tmp 11), (.const (.int .i64 1)), (.const (.int .i64 10))], some (9, true)⟩, ⟨some 13, .pick
    (.tmp 9) (.tmp 12) (.const (.bool false)), none⟩, ⟨some 14, .mv (.tmp 13), none⟩, ⟨some 15, .fld 2 (.tmp 3), some (14, true)⟩, ⟨some 16, .load false 1 (.tmp 15), some (14,
    true)⟩, ⟨some 17, .call (.func 42) [(.tmp 16), (.const (.int .i64 0)), (.const (.int .i64 10))], some (14, true)⟩, ⟨some 18, .pick (.tmp 14) (.tmp 17) (.const (.bool false)),
    none⟩, ⟨some 5, .mv (.tmp 18), none⟩]) (.seq (.region [⟨some 19, .mv (.tmp 5), none⟩, ⟨some 20, .call (.func 41) [(.tmp 19), (.const (.int .i64 2))], none⟩, ⟨some 4, .mv (.tmp
    20), none⟩]) .ret)))
theorem low74 : lowF Try.prog [3] Try.f74 = some (21, lc74.strip, [.tmp 4]) := by kernel_rfl
theorem fn74 : FnOk Try.prog 74 21 lc74 [.tmp 4] := ⟨Try.call74, [3], _, Try.func74, low74⟩
/-- moonpool/sonar.meet -/
def lc75 : LCode :=
  (.seq (.region [⟨some 5, .boxS (.tmp 0), none⟩, ⟨some 6, .boxS (.tmp 1), none⟩, ⟨some 10, .mv (.const (.bool false)), none⟩]) (.seq (.region [⟨some 12, .mv (.tmp 3), none⟩, ⟨some
    13, .mv (.tmp 2), none⟩, ⟨some 14, .bin .sub (.tmp 12) (.tmp 13), none⟩, ⟨some 15, .mv (.tmp 4), none⟩, ⟨some 16, .bin .add (.tmp 14) (.tmp 15), none⟩, ⟨some 17, .mv (.tmp 4),
    none⟩, ⟨some 18, .bin .rem (.tmp 16) (.tmp 17), none⟩, ⟨some 11, .mv (.tmp 18), none⟩]) (.seq (.regionD [⟨some 19, .mv (.tmp 11), none⟩, ⟨some 20, .load true 3 (.tmp 5), none⟩,
    ⟨some 21, .call (.func 47) [(.tmp 20)], none⟩, ⟨some 22, .bin .lss (.tmp 19) (.tmp 21), none⟩, ⟨some 23, .mv (.tmp 22), none⟩, ⟨some 24, .mv (.tmp 4), some (23, false)⟩, ⟨some
    25, .mv (.tmp 11), some (23, false)⟩, ⟨some 26, .bin .sub (.tmp 24) (.tmp 25), some (23, false)⟩, ⟨some 27, .mv (.tmp 4), some (23, false)⟩, ⟨some 28, .bin .rem (.tmp 26) (.tmp
    27), some (23, false)⟩, ⟨some 29, .load true 3 (.tmp 6), some (23, false)⟩, ⟨some 30, .call (.func 47) [(.tmp 29)], some (23, false)⟩, ⟨some 31, .bin .lss (.tmp 28) (.tmp 30),
    some (23, false)⟩, ⟨some 32, .pick (.tmp 23) (.const (.bool true)) (.tmp 31), none⟩, ⟨some 10, .mv (.tmp 32), none⟩] [0, 0, 2, 7, 15, 31, 31, 127, 31, 511, 31, 1055, 4095, 8191,
    16383] [0, 1, 2, 3, 4, 5, 6, 7, 8, 9, 10, 11, 12, 13, 14]) .ret)))
theorem low75 : lowF Try.prog [5, 6] Try.f75 = some (33, lc75.strip, [.tmp 10]) := by kernel_rfl
theorem fn75 : FnOk Try.prog 75 33 lc75 [.tmp 10] := ⟨Try.call75, [5, 6], _, Try.func75, low75⟩
/-- moonpool/sonar.gridErr$1 -/
def lc76 : LCode :=
  (.seq (.region [⟨some 2, .mv (.const (.bool false)), none⟩]) (.seq (.region [⟨some 3, .mv (.tmp 0), none⟩, ⟨some 4, .call (.func 42) [(.tmp 3), (.const (.int .i64 1)), (.const
    (.int .i64 12))], none⟩, ⟨some 2, .mv (.tmp 4), none⟩]) .ret))
theorem low76 : lowF Try.prog [] Try.f76 = some (5, lc76.strip, [.tmp 2]) := by kernel_rfl
theorem fn76 : FnOk Try.prog 76 5 lc76 [.tmp 2] := ⟨Try.call76, [], _, Try.func76, low76⟩
/-- moonpool/sonar.isCell -/
def lc77 : LCode :=
  (.seq (.region [⟨some 3, .boxS (.tmp 0), none⟩, ⟨some 6, .mv (.const (.bool false)), none⟩]) (.seq (.region [⟨some 7, .fld 0 (.tmp 3), none⟩, ⟨some 8, .load false 1 (.tmp 7),
    none⟩, ⟨some 9, .mv (.tmp 1), none⟩, ⟨some 10, .bin .sub (.tmp 9) (.const (.int .i64 1)), none⟩, ⟨some 11, .call (.func 42) [(.tmp 8), (.const (.int .i64 0)), (.tmp 10)], none⟩,
    ⟨some 12, .mv (.tmp 11), none⟩, ⟨some 13, .fld 1 (.tmp 3), some (12, true)⟩, ⟨some 14, .load false 1 (.tmp 13), some (12, true)⟩, ⟨some 15, .mv (.tmp 2), some (12, true)⟩, ⟨some
    16, .bin .sub (.tmp 15) (.const (.int .i64 1)), some (12, true)⟩, ⟨some 17, .call (.func 42) [(.tmp 14), (.const (.int .i64 0)), (.tmp 16)], some (12, true)⟩, ⟨some 18, .pick
    (.tmp 12) (.tmp 17) (.const (.bool false)), none⟩, ⟨some 6, .mv (.tmp 18), none⟩]) .ret))
theorem low77 : lowF Try.prog [3] Try.f77 = some (19, lc77.strip, [.tmp 6]) := by kernel_rfl
theorem fn77 : FnOk Try.prog 77 19 lc77 [.tmp 6] := ⟨Try.call77, [3], _, Try.func77, low77⟩
end Go.Pw

set_option linter.unusedSimpArgs false
set_option linter.unusedVariables false
namespace Go.Pw
set_option maxRecDepth 2000
open Go Go.Proofs A1 A2 A3 A4
instance : Mix Try.prog := ⟨⟨by kernel_rfl⟩⟩
theorem C6 {n lo hi : Int} : PFD Try.prog 6 [vi .i64 n, vi .i64 lo, vi .i64 hi] (vbl (decide (lo ≤ n ∧ n ≤ hi))) := by
  refine pi1 fn6 ?_
  (repeat' first | (refine Owe.same ?_; first | refine Owe.o ?_ | refine Owe.mk ?_ ?_) | (refine Fork.same ?_; (first | refine fkD ?_ ?_ | refine fkN ?_ ?_ | refine fkM ?_ ?_) <;> intro h) | refine MvQ.stay ?_)
  · (refine rqK rfl ?_; (repeat' first | exact rfl | (refine qS ?_; constructor))); simp [*]
  · (refine rqK rfl ?_; (repeat' first | exact rfl | (refine qS ?_; constructor))); simp only [decide_eq_false_iff_not]; omega
theorem C42 {n lo hi : Int} : PFD Try.prog 42 [vi .i64 n, vi .i64 lo, vi .i64 hi] (vbl (decide (lo ≤ n ∧ n ≤ hi))) := by
  refine pi1 fn42 ?_
  (repeat' first | (refine Owe.same ?_; first | refine Owe.o ?_ | refine Owe.mk ?_ ?_) | (refine Fork.same ?_; (first | refine fkD ?_ ?_ | refine fkN ?_ ?_ | refine fkM ?_ ?_) <;> intro h) | refine MvQ.stay ?_)
  · (refine rqK rfl ?_; (repeat' first | exact rfl | (refine qS ?_; constructor))); simp [*]
  · (refine rqK rfl ?_; (repeat' first | exact rfl | (refine qS ?_; constructor))); simp only [decide_eq_false_iff_not]; omega
theorem C62 {n : Int} : (-4611686018427387904 ≤ n ∧ n ≤ 4611686018427387904) → PFD Try.prog 62 [vi .i64 n] (vi .i64 (max n (-n))) := fun h => by
  refine pi1 fn62 ?_
  (repeat' first | (refine Owe.same ?_; first | refine Owe.o ?_ | refine Owe.mk ?_ ?_) | (refine Fork.same ?_; (first | refine fkD ?_ ?_ | refine fkN ?_ ?_ | refine fkM ?_ ?_) <;> intro h) | refine MvQ.stay ?_)
  (refine rqK rfl ?_; (repeat' first | exact rfl | (refine qS ?_; constructor)))
theorem C41 {b : Bool} {e : Int} : PFD Try.prog 41 [vbl b, vi .i64 e] (vi .i64 (unb b e)) := by
  refine pi1 fn41 ?_
  (repeat' first | (refine Owe.same ?_; first | refine Owe.o ?_ | refine Owe.mk ?_ ?_) | (refine Fork.same ?_; (first | refine fkD ?_ ?_ | refine fkN ?_ ?_ | refine fkM ?_ ?_) <;> intro h) | refine MvQ.stay ?_)
  · (refine rqK rfl ?_; (repeat' first | exact rfl | (refine qS ?_; constructor))); simp [unb, *]
  · (refine rqK rfl ?_; (repeat' first | exact rfl | (refine qS ?_; constructor))); simp [unb, *]
theorem C40 {l : List Int} : l.length < 4611686018427387904 → PFD Try.prog 40 [.c (ints l)] (vi .i64 (fstE l)) := fun hl => by
  refine pi1 fn40 ?_
  (repeat' first | (refine Owe.same ?_; first | refine Owe.o ?_ | refine Owe.mk ?_ ?_) | (refine Fork.same ?_; (first | refine fkD ?_ ?_ | refine fkN ?_ ?_ | refine fkM ?_ ?_) <;> intro h) | refine MvQ.stay ?_)
  refine Sat.lp0 (fun k : Nat => [(7, vi .i64 k), (6, vi .i64 l.length), (5, .c (ints l))]) (fun k => k ≤ l.length ∧ fstE l = fstE (l.drop k)) (fun k => l.length - k) 0 ⟨Nat.zero_le _, rfl⟩ (by ((first | refine qen ?_ | refine qvs ?_ | refine qeq ?_ | refine qst ?_ | refine qv ?_ | refine qc ?_ | refine qe ?_ | refine qcs ?_ | skip); (repeat' first | exact rfl | (refine qS ?_; constructor)))) ?_
  intro k hk
  (repeat' first | (refine Owe.same ?_; first | refine Owe.o ?_ | refine Owe.mk ?_ ?_) | (refine Fork.same ?_; (first | refine fkD ?_ ?_ | refine fkN ?_ ?_ | refine fkM ?_ ?_) <;> intro h) | refine MvQ.stay ?_)
  · simp only [Int.toNat_natCast] at h
    (refine rqK rfl ?_; (repeat' first | exact rfl | (refine qS ?_; constructor)))
    rw [hk.2, fstE_drop l k (by omega), if_neg h, Int.toNat_natCast]
  · simp only [Int.toNat_natCast] at h
    refine again0 (k + 1) ⟨by omega, ?_⟩ (by omega) (by ((first | refine qen ?_ | refine qvs ?_ | refine qeq ?_ | refine qst ?_ | refine qv ?_ | refine qc ?_ | refine qe ?_ | refine qcs ?_ | skip); (repeat' first | exact rfl | (refine qS ?_; constructor))))
    rw [hk.2, fstE_drop l k (by omega), if_pos h]
  · (refine rqK rfl ?_; (repeat' first | exact rfl | (refine qS ?_; constructor)))
    rw [hk.2, List.drop_of_length_le (by omega)]; rfl
theorem C10 {n b : Int} : (w64 n ∧ 0 < b ∧ Md b) → PFD Try.prog 10 [vi .i64 n, vi .i64 b] (vi .i64 (n % b)) := fun ⟨hn, hb, hb'⟩ => by
  have h5 := tmod_bd (n := n) hb
  refine pi1 fn10 ?_
  (repeat' first | (refine Owe.same ?_; first | refine Owe.o ?_ | refine Owe.mk ?_ ?_) | (refine Fork.same ?_; (first | refine fkD ?_ ?_ | refine fkN ?_ ?_ | refine fkM ?_ ?_) <;> intro h) | refine MvQ.stay ?_)
  · (refine rqK rfl ?_; (repeat' first | exact rfl | (refine qS ?_; constructor))); rw [← mod_eq hb, if_pos h]
  · (refine rqK rfl ?_; (repeat' first | exact rfl | (refine qS ?_; constructor))); rw [← mod_eq hb, if_neg h]
theorem C20 {l m : List Int} : l.length < 4611686018427387904 → PFD Try.prog 20 [.c (ints l), .c (ints m)] (vbl (decide (l = m))) := fun hl => by
  refine pi1 fn20 ?_
  (repeat' first | (refine Owe.same ?_; first | refine Owe.o ?_ | refine Owe.mk ?_ ?_) | (refine Fork.same ?_; (first | refine fkD ?_ ?_ | refine fkN ?_ ?_ | refine fkM ?_ ?_) <;> intro h) | refine MvQ.stay ?_)
  · (refine rqK rfl ?_; (repeat' first | exact rfl | (refine qS ?_; constructor))); simp only [decide_eq_false_iff_not]; intro he; subst he; omega
  · have hlm : l.length = m.length := by omega
    clear h
    refine Sat.lp0 (fun k : Nat => [(5, vi .i64 k), (0, .c (ints l)), (1, .c (ints m))]) (fun k => k ≤ l.length ∧ ∀ i, i < k → l.getD i 0 = m.getD i 0) (fun k => l.length - k) 0 ⟨Nat.zero_le _, fun i hi => by omega⟩ (by ((first | refine qen ?_ | refine qvs ?_ | refine qeq ?_ | refine qst ?_ | refine qv ?_ | refine qc ?_ | refine qe ?_ | refine qcs ?_ | skip); (repeat' first | exact rfl | (refine qS ?_; constructor)))) ?_
    intro k hk
    (repeat' first | (refine Owe.same ?_; first | refine Owe.o ?_ | refine Owe.mk ?_ ?_) | (refine Fork.same ?_; (first | refine fkD ?_ ?_ | refine fkN ?_ ?_ | refine fkM ?_ ?_) <;> intro h) | refine MvQ.stay ?_)
    · simp only [Int.toNat_natCast] at h
      (refine rqK rfl ?_; (repeat' first | exact rfl | (refine qS ?_; constructor))); simp only [decide_eq_false_iff_not]; intro he; subst he; exact h rfl
    · simp only [Int.toNat_natCast] at h
      refine again0 (k + 1) ⟨by omega, fun i hi => ?_⟩ (by omega) (by ((first | refine qen ?_ | refine qvs ?_ | refine qeq ?_ | refine qst ?_ | refine qv ?_ | refine qc ?_ | refine qe ?_ | refine qcs ?_ | skip); (repeat' first | exact rfl | (refine qS ?_; constructor))))
      rcases Nat.lt_succ_iff_lt_or_eq.1 hi with h3 | rfl
      · exact hk.2 i h3
      · exact h
    · (refine rqK rfl ?_; (repeat' first | exact rfl | (refine qS ?_; constructor))); simp only [decide_eq_true_eq]; exact ext_getD 0 hlm fun i hi => hk.2 i (by omega)
abbrev Pr := Int × Int
abbrev pr (p : Pr) : V := .agg [int p.1, int p.2]
theorem C8 {l : List (Int × Int × Int)} : l.length ≤ 1000000 → PFD Try.prog 8 [.c (trs l)] (.c (trs l)) := fun h => by
  refine pi1 fn8 ?_
  (repeat' first | (refine Owe.same ?_; first | refine Owe.o ?_ | refine Owe.mk ?_ ?_) | (refine Fork.same ?_; (first | refine fkD ?_ ?_ | refine fkN ?_ ?_ | refine fkM ?_ ?_) <;> intro h) | refine MvQ.stay ?_)
  (refine rqK rfl ?_; (repeat' first | exact rfl | (refine qS ?_; constructor)))
/-- The error of a number of items. -/
def cntE (n most : Int) : Int := fstE [unl (0 < n) 10, unl (n ≤ most) 8]
theorem C56 {n m : Int} : PFD Try.prog 56 [vi .i64 n, vi .i64 m] (vi .i64 (cntE n m)) := by
  refine pi1 fn56 ?_
  (repeat' first | (refine Owe.same ?_; first | refine Owe.o ?_ | refine Owe.mk ?_ ?_) | (refine Fork.same ?_; (first | refine fkD ?_ ?_ | refine fkN ?_ ?_ | refine fkM ?_ ?_) <;> intro h) | ((first | refine OpsL.same ?_ | refine OpsDL.same ?_); first | refine pK C41 rfl rfl ?_ | refine pK C40 rfl rfl ?_) | refine MvQ.stay ?_)
  (refine rqK rfl ?_; (repeat' first | exact rfl | (refine qS ?_; constructor)))
end Go.Pw

set_option linter.unusedSimpArgs false
set_option linter.unusedVariables false
namespace Go.Pw
set_option maxRecDepth 2000
open Go Go.Proofs A1 A2 A3 A4
end Go.Pw

set_option linter.unusedSimpArgs false
set_option linter.unusedVariables false
namespace Go.Pw
set_option maxRecDepth 2000
open Go Go.Proofs A1 A2 A3 A4
theorem fst0 {a : Int} {l : List Int} : fstE (a :: l) = 0 ↔ a = 0 ∧ fstE l = 0 := by
  simp only [fstE]
  constructor
  · intro h
    split at h
    · exact ⟨by assumption, h⟩
    · exact absurd h (by assumption)
  · rintro ⟨rfl, h⟩; rw [if_pos rfl]; exact h
theorem unl0 {p : Prop} [Decidable p] {e : Int} (he : e ≠ 0) : unl p e = 0 ↔ p := by rw [unl_eq]; split <;> simp_all
theorem fst_nil : fstE [] = 0 := rfl
end Go.Pw

set_option linter.unusedSimpArgs false
set_option linter.unusedVariables false
namespace Go.Pw
set_option maxRecDepth 2000
open Go Go.Proofs A1 A2 A3 A4
end Go.Pw

set_option linter.unusedSimpArgs false
set_option linter.unusedVariables false
namespace Go.Pw
set_option maxRecDepth 2000
open Go Go.Proofs A1 A2 A3 A4
theorem C69 {n : Int} : PFD Try.prog 69 [vi .i64 n] (vbl false) := by
  refine pi1 fn69 ?_
  (repeat' first | (refine Owe.same ?_; first | refine Owe.o ?_ | refine Owe.mk ?_ ?_) | (refine Fork.same ?_; (first | refine fkD ?_ ?_ | refine fkN ?_ ?_ | refine fkM ?_ ?_) <;> intro h) | refine MvQ.stay ?_)
  (refine rqK rfl ?_; (repeat' first | exact rfl | (refine qS ?_; constructor)))
  simp
def cmpI (a b : Int) : Int := if a < b then -1 else if b < a then 1 else 0
theorem C52 {a b : Int} : PFD Try.prog 52 [vi .i64 a, vi .i64 b] (vi .i64 (cmpI a b)) := by
  refine pi1 fn52 ?_
  (repeat' first | (refine Owe.same ?_; first | refine Owe.o ?_ | refine Owe.mk ?_ ?_) | (refine Fork.same ?_; (first | refine fkY ?_ | refine fkF ?_ | ((first | refine fkD ?_ ?_ | refine fkN ?_ ?_ | refine fkM ?_ ?_) <;> intro h))) | ((first | refine OpsL.same ?_ | refine OpsDL.same ?_); first | refine pK C69 rfl rfl ?_) | refine MvQ.stay ?_)
  · (refine rqK rfl ?_; (repeat' first | exact rfl | (refine qS ?_; constructor))); rw [cmpI, if_pos h]
  · rename_i h1
    (refine rqK rfl ?_; (repeat' first | exact rfl | (refine qS ?_; constructor))); rw [cmpI, if_neg h1, if_pos h]
  · rename_i h1
    (refine rqK rfl ?_; (repeat' first | exact rfl | (refine qS ?_; constructor))); rw [cmpI, if_neg h1, if_neg h]
theorem C51 {l : List Int} : l.length < 4611686018427387904 → PFD Try.prog 51 [.c (ints l)] (vi .i64 (fstE l)) := fun hl => by
  refine pi1 fn51 ?_
  (repeat' first | (refine Owe.same ?_; first | refine Owe.o ?_ | refine Owe.mk ?_ ?_) | (refine Fork.same ?_; (first | refine fkD ?_ ?_ | refine fkN ?_ ?_ | refine fkM ?_ ?_) <;> intro h) | refine MvQ.stay ?_)
  refine Sat.lp0 (fun k : Nat => [(8, vi .i64 k), (7, vi .i64 l.length), (6, .c (ints l)), (3, vi .i64 0)]) (fun k => k ≤ l.length ∧ fstE l = fstE (l.drop k)) (fun k => l.length - k) 0 ⟨Nat.zero_le _, rfl⟩ (by ((first | refine qen ?_ | refine qvs ?_ | refine qeq ?_ | refine qst ?_ | refine qv ?_ | refine qc ?_ | refine qe ?_ | refine qcs ?_ | skip); (repeat' first | exact rfl | (refine qS ?_; constructor)))) ?_
  intro k hk
  (repeat' first | (refine Owe.same ?_; first | refine Owe.o ?_ | refine Owe.mk ?_ ?_) | (refine Fork.same ?_; (first | refine fkD ?_ ?_ | refine fkN ?_ ?_ | refine fkM ?_ ?_) <;> intro h) | refine MvQ.stay ?_)
  · simp only [Int.toNat_natCast] at h
    (refine rqK rfl ?_; (repeat' first | exact rfl | (refine qS ?_; constructor)))
    rw [hk.2, fstE_drop l k (by omega), if_neg h, Int.toNat_natCast]
  · simp only [Int.toNat_natCast] at h
    refine again0 (k + 1) ⟨by omega, ?_⟩ (by omega) (by ((first | refine qen ?_ | refine qvs ?_ | refine qeq ?_ | refine qst ?_ | refine qv ?_ | refine qc ?_ | refine qe ?_ | refine qcs ?_ | skip); (repeat' first | exact rfl | (refine qS ?_; constructor))))
    rw [hk.2, fstE_drop l k (by omega), if_pos h]
  · (refine rqK rfl ?_; (repeat' first | exact rfl | (refine qS ?_; constructor)))
    rw [hk.2, List.drop_of_length_le (by omega)]; rfl
/-- Lists of numbers compared. -/
def cmpL : List Int → List Int → Int
  | [], [] => 0
  | [], _ :: _ => -1
  | _ :: _, [] => 1
  | x :: l, y :: m => if cmpI x y = 0 then cmpL l m else cmpI x y
theorem cmpL_drop (l m : List Int) (k : Nat) (h1 : k < l.length) (h2 : k < m.length) : cmpL (l.drop k) (m.drop k) = if cmpI (l.getD k 0) (m.getD k 0) = 0 then cmpL (l.drop (k + 1)) (m.drop (k + 1)) else cmpI (l.getD k 0) (m.getD k 0) := by
  rw [List.drop_eq_getElem_cons h1, List.drop_eq_getElem_cons h2, cmpL, List.getD_eq_getElem?_getD, List.getElem?_eq_getElem h1, List.getD_eq_getElem?_getD, List.getElem?_eq_getElem h2]
  rfl
theorem C53 {l m : List Int} : (l.length ≤ 1000000 ∧ m.length ≤ 1000000) → PFD Try.prog 53 [.c (ints l), .c (ints m)] (vi .i64 (cmpL l m)) := fun ⟨hl, hm⟩ => by
  refine pi1 fn53 ?_
  (repeat' first | (refine Owe.same ?_; first | refine Owe.o ?_ | refine Owe.mk ?_ ?_) | (refine Fork.same ?_; (first | refine fkD ?_ ?_ | refine fkN ?_ ?_ | refine fkM ?_ ?_) <;> intro h) | refine MvQ.stay ?_)
  refine Sat.lp0 (fun k : Nat => [(11, vi .i64 k), (10, vi .i64 l.length), (9, .c (ints l)), (0, .c (ints l)), (1, .c (ints m))]) (fun k => k ≤ l.length ∧ k ≤ m.length ∧ cmpL l m = cmpL (l.drop k) (m.drop k)) (fun k => l.length - k) 0 ⟨Nat.zero_le _, Nat.zero_le _, rfl⟩ (by ((first | refine qen ?_ | refine qvs ?_ | refine qeq ?_ | refine qst ?_ | refine qv ?_ | refine qc ?_ | refine qe ?_ | refine qcs ?_ | skip); (repeat' first | exact rfl | (refine qS ?_; constructor)))) ?_
  intro k ⟨hk, hk2, he⟩
  (repeat' first | (refine Owe.same ?_; first | refine Owe.o ?_ | refine Owe.mk ?_ ?_) | (refine Fork.same ?_; (first | refine fkD ?_ ?_ | refine fkN ?_ ?_ | refine fkM ?_ ?_) <;> intro h) | ((first | refine OpsL.same ?_ | refine OpsDL.same ?_); first | refine pK C52 rfl rfl ?_) | refine MvQ.stay ?_)
  · (refine rqK rfl ?_; (repeat' first | exact rfl | (refine qS ?_; constructor)))
    rw [he, List.drop_of_length_le (show m.length ≤ k by omega), List.drop_eq_getElem_cons (show k < l.length by omega)]; rfl
  · have e := cmpL_drop l m k (by omega) (by omega)
    have h : ¬ cmpI (l.getD k 0) (m.getD k 0) = 0 := h
    rw [if_neg h] at e
    (refine rqK rfl ?_; (repeat' first | exact rfl | (refine qS ?_; constructor))); rw [he, e]; rfl
  · have e := cmpL_drop l m k (by omega) (by omega)
    have h : cmpI (l.getD k 0) (m.getD k 0) = 0 := h
    rw [if_pos h] at e
    exact again0 (k + 1) ⟨by omega, by omega, by rw [he, e]⟩ (by omega) (by ((first | refine qen ?_ | refine qvs ?_ | refine qeq ?_ | refine qst ?_ | refine qv ?_ | refine qc ?_ | refine qe ?_ | refine qcs ?_ | skip); (repeat' first | exact rfl | (refine qS ?_; constructor))))
  · (refine rqK rfl ?_; (repeat' first | exact rfl | (refine qS ?_; constructor)))
    rw [he, List.drop_of_length_le (show l.length ≤ k by omega), List.drop_eq_getElem_cons (show k < m.length by omega)]; rfl
  · (refine rqK rfl ?_; (repeat' first | exact rfl | (refine qS ?_; constructor)))
    rw [he, List.drop_of_length_le (show l.length ≤ k by omega), List.drop_of_length_le (show m.length ≤ k by omega)]; rfl
theorem bit_test {b i : Nat} (hb : b < 2 ^ 63) (hi : i < 64) : decide (IntKind.u64.wrap ((BitVec.ofInt IntKind.u64.bits ((b : Int).fdiv (2 ^ min (Int.toNat (i : Int)) IntKind.u64.bits)) &&& BitVec.ofInt IntKind.u64.bits 1).toNat : Nat) = 1) = b.testBit i := by
  have hbits : IntKind.u64.bits = 64 := rfl
  have e1 : (b : Int).fdiv (2 ^ min (Int.toNat (i : Int)) IntKind.u64.bits) = ((b / 2 ^ i : Nat) : Int) := by
    rw [hbits, Int.toNat_natCast, Nat.min_eq_left (by omega), Int.fdiv_eq_ediv_of_nonneg _ (Int.pow_nonneg (by decide))]
    norm_cast
  rw [e1, Nat.testBit_eq_decide_div_mod_eq]
  have hlt : b / 2 ^ i < 2 ^ 63 := by
    have := Nat.div_le_self b (2 ^ i)
    omega
  generalize b / 2 ^ i = q at hlt ⊢
  have e2 : (BitVec.ofInt IntKind.u64.bits (q : Int) &&& BitVec.ofInt IntKind.u64.bits 1).toNat = q % 2 := by
    rw [BitVec.toNat_and]
    have f1 : (BitVec.ofInt IntKind.u64.bits (q : Int)).toNat = q := by
      rw [BitVec.toNat_ofInt, hbits]; omega
    have f2 : (BitVec.ofInt IntKind.u64.bits 1).toNat = 1 := rfl
    rw [f1, f2, Nat.and_one_is_mod]
  rw [e2]
  have e3 : IntKind.u64.wrap ((q % 2 : Nat) : Int) = ((q % 2 : Nat) : Int) := by
    rcases (show q % 2 = 0 ∨ q % 2 = 1 by omega) with h | h <;> rw [h] <;> rfl
  rw [e3, Bool.eq_iff_iff, decide_eq_true_eq, decide_eq_true_eq]
  omega
/-- The numbers of a set, as bits say. -/
abbrev subL (n b : Nat) : List Int := fltL (fun i => b.testBit i) n
theorem subL_mem {n b : Nat} {x : Int} (h : x ∈ subL n b) : 0 ≤ x ∧ x < n := by
  simp only [subL, fltL, List.mem_map, List.mem_filter, List.mem_range] at h
  obtain ⟨i, ⟨h1, _⟩, rfl⟩ := h
  omega
structure BSt where
  l : List Int
  p : Int
  ok : Bool
/-- The best set among those of the first bits. -/
def bestK (c : List Int → Int × Bool) (n : Nat) : Nat → BSt
  | 0 => ⟨[], 0, false⟩
  | b + 1 => let s := bestK c n b
    let t := subL n b
    if (c t).2 = true ∧ (s.ok = false ∨ fstE [cmpI (c t).1 s.p, cmpI t.length s.l.length, cmpL t s.l] < 0) then ⟨t, (c t).1, true⟩ else s
theorem bestK_len (c : List Int → Int × Bool) (n : Nat) : ∀ b, (bestK c n b).l.length ≤ n
  | 0 => by simp [bestK]
  | b + 1 => by
    have ih := bestK_len c n b
    have := fltL_len (fun i => b.testBit i) n
    simp only [bestK]
    split
    · exact this
    · exact ih
theorem C34 {g : FuncId} {rows : List (List D)} {c : List Int → Int × Bool} {n : Nat} (hg : ∀ t : List Int, t.length ≤ 1000000 → (∀ x ∈ t, 0 ≤ x ∧ x < n) → PFD Try.prog g (.c (ints t) :: rows.map fun r => .c (.rp r)) (.tup [vi .i64 (c t).1, vbl (c t).2])) : n ≤ 20 → PFD Try.prog 34 [vi .i64 n, .c (.fnR g rows)] (.tup [.c (ints (bestK c n (2 ^ n)).l), vi .i64 (bestK c n (2 ^ n)).p, vbl (bestK c n (2 ^ n)).ok]) := fun hn => by
  have hpow : 2 ^ n ≤ 2 ^ 20 := Nat.pow_le_pow_right (by decide) hn
  obtain ⟨m, hm⟩ : ∃ m, 2 ^ n = m := ⟨_, rfl⟩
  have hp : ((2 : Int) ^ n) = (m : Int) := by rw [← hm]; norm_cast
  rw [hm] at hpow ⊢
  have e1 : IntKind.u64.wrap (1 * 2 ^ min (Int.toNat (n : Int)) IntKind.u64.bits) = (m : Int) := by
    have hb : IntKind.u64.bits = 64 := rfl
    rw [hb, Int.toNat_natCast, Nat.min_eq_left (by omega), Int.one_mul, u64_wrap, hp]
    omega
  refine pi3 fn34 ?_
  (repeat' first | (refine Owe.same ?_; first | refine Owe.o ?_ | refine Owe.mk ?_ ?_) | (refine Fork.same ?_; (first | refine fkD ?_ ?_ | refine fkN ?_ ?_ | refine fkM ?_ ?_) <;> intro h) | refine MvQ.stay ?_)
  refine Sat.lp0 (fun b : Nat => [(17, vi .u64 b), (16, vi .u64 m), (0, vi .i64 n), (1, .c (.fnR g rows)), (7, .c (ints (bestK c n b).l)), (8, vi .i64 (bestK c n b).p), (9, vbl (bestK c n b).ok)]) (fun b => b ≤ m) (fun b => m - b) 0 (Nat.zero_le _) ?_ ?_
  · ((first | refine qen ?_ | refine qvs ?_ | refine qeq ?_ | refine qst ?_ | refine qv ?_ | refine qc ?_ | refine qe ?_ | refine qcs ?_ | skip); (repeat' first | exact rfl | (refine qS ?_; constructor)))
    exact e1
  · intro b hb
    refine Fork.dec (fun hlt => ?_) (fun hlt => ?_)
    · have hlt : b < m := by omega
      (repeat' first | (refine Owe.same ?_; first | refine Owe.o ?_ | refine Owe.mk ?_ ?_) | (refine Fork.same ?_; (first | refine fkD ?_ ?_ | refine fkN ?_ ?_ | refine fkM ?_ ?_) <;> intro h) | refine MvQ.stay ?_)
      refine Sat.nilS 11 3 1 (fun i => r1 (([] : List Int).getD i 0)) rfl ?_
      refine Sat.lp (fun i : Nat => ⟨[(21, vi .i64 i), (20, vi .i64 n), (10, vi .u64 b), (11, .c (.ms 0 (fltL (fun i => b.testBit i) i).length)), (17, vi .u64 b), (16, vi .u64 m), (0, vi .i64 n), (1, .c (.fnR g rows)), (7, .c (ints (bestK c n b).l)), (8, vi .i64 (bestK c n b).p), (9, vbl (bestK c n b).ok)], [(0, rowv 3 1 r1 0 (fltL (fun i => b.testBit i) i))], 1⟩)
        (fun i => i ≤ n) (fun i => n - i) 0 [0] (Nat.zero_le _) ?_ ?_
      · (refine qis ?_ ?_ <;> (repeat' first | exact rfl | (refine qS ?_; constructor)))
      · intro i hi
        have hfl := fltL_len (fun i => b.testBit i) i
        have hfs := fltL_succ (fun i => b.testBit i) i
        refine Fork.dec (fun hli => ?_) (fun hli => ?_)
        · have hli : i < n := by omega
          have ht := bit_test (b := b) (i := i) (by omega) (by omega)
          (repeat' first | (refine Owe.same ?_; first | refine Owe.o ?_ | refine Owe.mk ?_ ?_) | (refine Fork.same ?_; (first | refine fkD ?_ ?_ | refine fkN ?_ ?_ | refine fkM ?_ ?_) <;> intro h) | refine MvQ.stay ?_)
          · have h : decide _ = true := decide_eq_true h
            rw [ht] at h
            rw [if_pos h] at hfs
            refine again (i + 1) [1] hli (by omega) ?_
            (refine qis ?_ ?_ <;> (repeat' first | exact rfl | (refine qS ?_; constructor)))
            · rw [hfs]; simp
            · exact hfs
          · have h : decide _ = false := decide_eq_false h
            rw [ht] at h
            rw [if_neg (by rw [h]; decide)] at hfs
            refine again (i + 1) [0] hli (by omega) ?_
            (refine qis ?_ ?_ <;> (repeat' first | exact rfl | (refine qS ?_; constructor)))
            · rw [hfs]
            · rw [hfs]
        · have : i = n := by omega
          subst this
          (repeat' first | (refine Owe.same ?_; first | refine Owe.o ?_ | refine Owe.mk ?_ ?_) | (refine Fork.same ?_; (first | refine fkD ?_ ?_ | refine fkN ?_ ?_ | refine fkM ?_ ?_) <;> intro h) | refine MvQ.stay ?_)
          refine OpsL.frz 11 _ rfl rfl (Nat.le_refl _) ?_
          refine OpsL.frz 36 _ rfl rfl (Nat.le_refl _) ?_
          have hgt := hg (subL i b) (by have := fltL_len (fun i => b.testBit i) i; show (fltL (fun i => b.testBit i) i).length ≤ _; omega) (fun x hx => subL_mem hx)
          have hl2 := bestK_len c i b
          (repeat' first | (refine Owe.same ?_; first | refine Owe.o ?_ | refine Owe.mk ?_ ?_) | (refine Fork.same ?_; (first | refine fkD ?_ ?_ | refine fkN ?_ ?_ | refine fkM ?_ ?_) <;> intro h) | ((first | refine OpsL.same ?_ | refine OpsDL.same ?_); first | refine pR hgt rfl rfl ?_) | refine MvQ.stay ?_)
          all_goals (repeat' first | (refine Owe.same ?_; first | refine Owe.o ?_ | refine Owe.mk ?_ ?_) | (refine Fork.same ?_; (first | refine fkD ?_ ?_ | refine fkN ?_ ?_ | refine fkM ?_ ?_) <;> intro h) | ((first | refine OpsL.same ?_ | refine OpsDL.same ?_); first | refine pK C52 rfl rfl ?_ | refine pK C53 rfl rfl ?_ | refine pK C51 rfl rfl ?_) | refine MvQ.stay ?_)
          · rename_i h1
            have e : bestK c i (b + 1) = ⟨subL i b, (c (subL i b)).1, true⟩ := by
              simp only [bestK]; rw [if_pos ⟨h1, .inl (by simpa using h)⟩]
            refine again0 (b + 1) hlt (by omega) ?_
            simp only [e]
            ((first | refine qen ?_ | refine qvs ?_ | refine qeq ?_ | refine qst ?_ | refine qv ?_ | refine qc ?_ | refine qe ?_ | refine qcs ?_ | skip); (repeat' first | exact rfl | (refine qS ?_; constructor)))
            rw [u64_wrap]; omega
          · rename_i h1 h2
            have e : bestK c i (b + 1) = ⟨subL i b, (c (subL i b)).1, true⟩ := by
              simp only [bestK]; rw [if_pos ⟨h1, .inr h⟩]
            refine again0 (b + 1) hlt (by omega) ?_
            simp only [e]
            ((first | refine qen ?_ | refine qvs ?_ | refine qeq ?_ | refine qst ?_ | refine qv ?_ | refine qc ?_ | refine qe ?_ | refine qcs ?_ | skip); (repeat' first | exact rfl | (refine qS ?_; constructor)))
            rw [u64_wrap]; omega
          · rename_i h1 h2
            have e : bestK c i (b + 1) = bestK c i b := by
              simp only [bestK]; rw [if_neg]
              rintro ⟨_, h3 | h3⟩
              · rw [h3] at h2; cases h2
              · exact h h3
            refine again0 (b + 1) hlt (by omega) ?_
            simp only [e]
            ((first | refine qen ?_ | refine qvs ?_ | refine qeq ?_ | refine qst ?_ | refine qv ?_ | refine qc ?_ | refine qe ?_ | refine qcs ?_ | skip); (repeat' first | exact rfl | (refine qS ?_; constructor)))
            rw [u64_wrap]; omega
          · have e : bestK c i (b + 1) = bestK c i b := by
              simp only [bestK]; rw [if_neg]
              rintro ⟨h3, _⟩
              rw [h] at h3; cases h3
            refine again0 (b + 1) hlt (by omega) ?_
            simp only [e]
            ((first | refine qen ?_ | refine qvs ?_ | refine qeq ?_ | refine qst ?_ | refine qv ?_ | refine qc ?_ | refine qe ?_ | refine qcs ?_ | skip); (repeat' first | exact rfl | (refine qS ?_; constructor)))
            rw [u64_wrap]; omega
    · have : b = m := by omega
      subst this
      (repeat' first | (refine Owe.same ?_; first | refine Owe.o ?_ | refine Owe.mk ?_ ?_) | (refine Fork.same ?_; (first | refine fkD ?_ ?_ | refine fkN ?_ ?_ | refine fkM ?_ ?_) <;> intro h) | refine MvQ.stay ?_)
      (refine rqK rfl ?_; (repeat' first | exact rfl | (refine qS ?_; constructor)))
end Go.Pw
