/- Steps toward the row of this claim: part 3 of 6. Proved as named below, on no condition but those that each theorem states. -/
import Derived.Test.YtailfkllanegeaaGreatDoorTopCableHoldsB
import Derived.ProofKit
import Derived.Deep.Slices
import Derived.Test.YtailfkllanegeaaGreatDoorProg
import Derived.Shelf.Strings.Builder1
import Derived.Shelf.Strings.OnBuilder
import Derived.Shelf.Strings.BuilderK
import Derived.Shelf.LaysM
import Derived.Shelf.LaysC
import Derived.Shelf.Strconv.Itoa3
import Derived.Shelf.Strconv.AtoiAll
import Derived.Shelf.Strings.Search3
import Derived.Shelf.Strings.SplitCore
import Derived.Shelf.Strings.Prefix
import Derived.Shelf.Strings.Count
import Derived.Lib.AtoiAll
import Derived.Lib.ItoaNum
import Derived.Lib.ItoaLen
import Derived.Lib.Join
import Derived.Lib.Split
import Derived.Lib.SplitLaws
import Derived.Lib.AtoiErrMem
set_option linter.unusedVariables false
namespace Go.Pw
open Go Go.RowKit
section
variable (P : Program) (N base : Nat) (M : List Nat)
def isLoad : LOp → Bool
  | .load _ _ _ => true
  | _ => false
theorem load_same {ev : Operand → V} {σ σ' : Store} {nx nx' : Nat} {op : LOp} {ob : Prop} {v : V} (hl : isLoad op = true) (h : xop ev σ nx op = some (ob, v, σ', nx')) : σ' = σ := by
  cases op with
  | load g n a =>
    simp only [xop] at h
    split at h
    · split at h
      · split at h
        · obtain ⟨_, h⟩ := tkc_some _ _ _ _ h; cases h; rfl
        · split at h <;> first | (cases h; rfl) | cases h
      · cases h
    · split at h
      · obtain ⟨_, h⟩ := tkd_some _ _ _ _ h; cases h; rfl
      · split at h <;> first | (cases h; rfl) | cases h
    · split at h
      · split at h
        · split at h
          · obtain ⟨_, h⟩ := tkd_some _ _ _ _ h; cases h; rfl
          · split at h <;> first | (cases h; rfl) | cases h
        · cases h
      · cases h
    · cases h
  | _ => simp [isLoad] at hl
def runID (i : LIns) (env : List (Nat × V)) (σ : Store) (nx : Nat) (p : Option Prop) (acc : List (Bool × List Nat)) (k : List (Nat × V) → Store → Nat → Option Prop → List (Bool × List Nat) → Prop) (stuck : Prop) : Prop :=
  match xop (evo env) (pickS σ (foot (evo env) i.op)) nx i.op with
  | some (ob, v, σ1, _) => match owes (evo env) i.op with
    | true => match foot (evo env) i.op, σ1 with
      | [], [] => frNat (nx + 1) fun nx' => putK i.dst v env fun env' => k env' σ nx' (andO p ob) ((true, []) :: acc)
      | ft, σ1 => frS (app (pickS σ ft) σ1 σ) fun σ' => frN (dom (pickS σ ft) ++ dom σ1) fun fp => frNat (nx + 1) fun nx' => putK i.dst v env fun env' => k env' σ' nx' (andO p ob) ((isLoad i.op, fp) :: acc)
    | false => match foot (evo env) i.op, σ1 with
      | [], [] => frNat (nx + 1) fun nx' => putK i.dst v env fun env' => k env' σ nx' p ((true, []) :: acc)
      | ft, σ1 => frS (app (pickS σ ft) σ1 σ) fun σ' => frN (dom (pickS σ ft) ++ dom σ1) fun fp => frNat (nx + 1) fun nx' => putK i.dst v env fun env' => k env' σ' nx' p ((isLoad i.op, fp) :: acc)
  | none => flush p stuck
abbrev OpsD' (ops : List LIns) (st : St) (acc : List (Bool × List Nat)) (K : St → Prop) : Prop := OpsD P N base M 0 [] ops st acc K
structure OpsDL (ops : List LIns) (st : St) (acc : List (Bool × List Nat)) (K : St → Prop) : Prop where
  h : OpsD P N base M 0 [] ops st acc K
def wpD : List LIns → List (Nat × V) → Store → Nat → Option Prop → List (Bool × List Nat) → (St → Prop) → Prop
  | [], env, σ, nx, p, acc, K => match fpAll M 0 acc.reverse with
    | true => flush p (K ⟨env, σ, nx⟩)
    | false => False
  | i :: os, env, σ, nx, p, acc, K => match guardOf env i.guard with
    | .run => runID i env σ nx p acc (fun env σ nx p acc => wpD os env σ nx p acc K) (OpsDL P N base M (i :: os) ⟨env, σ, nx⟩ acc K)
    | .skip => putK i.dst (.tup []) env fun env => wpD os env σ nx p ((true, []) :: acc) K
    | .stop => match i.guard with
      | some (t, want) => match lk env t with
        | .c (.d (.v (.bool b))) => match want with
          | true => flush p (Fork b (runID i ((t, .c .tru) :: env) σ nx none acc (fun env σ nx p acc => wpD os env σ nx p acc K) (OpsDL P N base M (i :: os) ⟨(t, .c .tru) :: env, σ, nx⟩ acc K))
              (putK i.dst (.tup []) ((t, .c .fls) :: env) fun env => wpD os env σ nx none ((true, []) :: acc) K))
          | false => flush p (Fork b (putK i.dst (.tup []) ((t, .c .tru) :: env) fun env => wpD os env σ nx none ((true, []) :: acc) K)
              (runID i ((t, .c .fls) :: env) σ nx none acc (fun env σ nx p acc => wpD os env σ nx p acc K) (OpsDL P N base M (i :: os) ⟨(t, .c .fls) :: env, σ, nx⟩ acc K)))
        | _ => flush p (OpsDL P N base M (i :: os) ⟨env, σ, nx⟩ acc K)
      | none => flush p (OpsDL P N base M (i :: os) ⟨env, σ, nx⟩ acc K)
variable {P N base M}
theorem runID_spec {i : LIns} {os : List LIns} {env : List (Nat × V)} {σ : Store} {nx : Nat} {p : Option Prop} {acc : List (Bool × List Nat)} {K : St → Prop} (hg : guardOf env i.guard = .run)
    (ih : ∀ env σ nx p acc, wpD P N base M os env σ nx p acc K → okO p ∧ OpsD' P N base M os ⟨env, σ, nx⟩ acc K)
    (h : runID i env σ nx p acc (fun env σ nx p acc => wpD P N base M os env σ nx p acc K) (OpsDL P N base M (i :: os) ⟨env, σ, nx⟩ acc K)) : okO p ∧ OpsD' P N base M (i :: os) ⟨env, σ, nx⟩ acc K := by
  unfold runID at h
  split at h
  · rename_i ob v σ1 nx1 hx
    simp only [frNat_eq, putK_eq, frS_eq, frN_eq] at h
    have hgo : ∀ (rd : Bool) p', (rd = true → σ1 = pickS σ (foot (evo env) i.op)) → wpD P N base M os (putE env i.dst v) (app (pickS σ (foot (evo env) i.op)) σ1 σ) (nx + 1) p' ((rd, dom (pickS σ (foot (evo env) i.op)) ++ dom σ1) :: acc) K → (okO p' → okO p ∧ ob) → okO p ∧ OpsD' P N base M (i :: os) ⟨env, σ, nx⟩ acc K := fun rd p' hrd h hp => by
      obtain ⟨h1, h2⟩ := ih _ _ _ _ _ h
      obtain ⟨h3, h4⟩ := hp h1
      exact ⟨h3, OpsD.step (k := 0) (st := ⟨env, σ, nx⟩) (VStep.xop hg hx h4) (pickS_sub _) (Nat.le_refl _) (Nat.le_succ _) rd hrd h2⟩
    split at h
    · split at h
      · rename_i hft
        have := fun p' => hgo true p' (fun _ => by rw [hft]; rfl)
        simp only [hft, pickS, app, catS, dom, delD, List.append_nil] at this
        exact this _ h okO_and
      · exact hgo _ _ (fun hl => load_same hl hx) h okO_and
    · rename_i hw
      split at h
      · rename_i hft
        have := fun p' => hgo true p' (fun _ => by rw [hft]; rfl)
        simp only [hft, pickS, app, catS, dom, delD, List.append_nil] at this
        exact this _ h fun hp => ⟨hp, owes_false hw hx⟩
      · exact hgo _ _ (fun hl => load_same hl hx) h fun hp => ⟨hp, owes_false hw hx⟩
  · exact ⟨(flush_iff h).1, (flush_iff h).2.h⟩
theorem OpsD.know' {ops : List LIns} {env : List (Nat × V)} {σ : Store} {nx : Nat} {acc : List (Bool × List Nat)} {K : St → Prop} (t : Nat) (b : Bool) (h : lk env t = vbl b) (hf : Fork b (OpsD' P N base M ops ⟨(t, .c .tru) :: env, σ, nx⟩ acc K) (OpsD' P N base M ops ⟨(t, .c .fls) :: env, σ, nx⟩ acc K)) : OpsD' P N base M ops ⟨env, σ, nx⟩ acc K :=
  OpsD.know (st := ⟨env, σ, nx⟩) t b h hf.t hf.f
theorem wpD_spec : ∀ (ops : List LIns) (env : List (Nat × V)) (σ : Store) (nx : Nat) (p : Option Prop) (acc : List (Bool × List Nat)) (K : St → Prop), wpD P N base M ops env σ nx p acc K → okO p ∧ OpsD' P N base M ops ⟨env, σ, nx⟩ acc K
  | [], env, σ, nx, p, acc, K, h => by
    unfold wpD at h
    split at h
    · rename_i hf
      obtain ⟨h1, h2⟩ := flush_iff h
      exact ⟨h1, OpsD.nil hf h2⟩
    · exact h.elim
  | i :: os, env, σ, nx, p, acc, K, h => by
    have ih := fun env σ nx p acc => wpD_spec os env σ nx p acc K
    have hskip : ∀ env, guardOf env i.guard = .skip → ∀ p, (putK i.dst (.tup []) env fun env => wpD P N base M os env σ nx p ((true, []) :: acc) K) → okO p ∧ OpsD' P N base M (i :: os) ⟨env, σ, nx⟩ acc K := fun env hg p h => by
      rw [putK_eq] at h
      obtain ⟨h1, h2⟩ := ih _ _ _ _ _ h
      exact ⟨h1, OpsD.step (k := 0) (σ0 := []) (σ1 := []) (st := ⟨env, σ, nx⟩) (VStep.skip (lo := nx) hg) (fun id e h => by simp [get] at h) (Nat.le_refl _) (Nat.le_refl _) true (fun _ => rfl) h2⟩
    unfold wpD at h
    split at h
    · rename_i hg; exact runID_spec hg ih h
    · rename_i hg; exact hskip env hg p h
    · rename_i hg
      split at h
      · rename_i t want hgu
        have gT : guardOf ((t, .c .tru) :: env) i.guard = (match want with | true => .run | false => .skip) := by
          cases want <;> simp [hgu, guardOf, lk_cons]
        have gF : guardOf ((t, .c .fls) :: env) i.guard = (match want with | true => .skip | false => .run) := by
          cases want <;> simp [hgu, guardOf, lk_cons]
        split at h
        · rename_i b hb
          split at h
          · obtain ⟨h1, h2⟩ := flush_iff h
            exact ⟨h1, OpsD.know' t b hb ⟨fun hh => (runID_spec gT ih (h2.t hh)).2, fun hh => (hskip _ gF _ (h2.f hh)).2⟩⟩
          · obtain ⟨h1, h2⟩ := flush_iff h
            exact ⟨h1, OpsD.know' t b hb ⟨fun hh => (hskip _ gT _ (h2.t hh)).2, fun hh => (runID_spec gF ih (h2.f hh)).2⟩⟩
        · exact ⟨(flush_iff h).1, (flush_iff h).2.h⟩
      · exact ⟨(flush_iff h).1, (flush_iff h).2.h⟩
theorem OpsD.wp {ops : List LIns} {env : List (Nat × V)} {σ : Store} {nx : Nat} {acc : List (Bool × List Nat)} {K : St → Prop} (h : wpD P N base M ops env σ nx none acc K) : OpsD' P N base M ops ⟨env, σ, nx⟩ acc K := (wpD_spec _ _ _ _ _ _ _ h).2
end
theorem Mv.nilms {base : Nat} {env : List (Nat × V)} {σ : Store} {nx : Nat} (t : Nat) (e : TypeId) (s : Nat) (f : Nat → List D) (h : lk env t = .c (.d (.v (.slice none 0 0)))) : Mv base ⟨env, σ, nx⟩ ⟨(t, .c (.ms nx 0)) :: env, (nx, .row e s 0 f false) :: σ, nx + 1⟩ :=
  fun _ _ _ _ _ hc => hc.nilms (st := ⟨env, σ, nx⟩) e s f h
theorem Mv.freeze {base : Nat} {env : List (Nat × V)} {σ : Store} {nx : Nat} (t id : Nat) {n : Nat} {e : TypeId} {s m : Nat} {f : Nat → List D} {fz : Bool} (h : lk env t = .c (.ms id n)) (hg : get σ id = some (.row e s m f fz)) (hn : n ≤ m) :
    Mv base ⟨env, σ, nx⟩ ⟨(t, .c (.d (.sl s n f))) :: env, set σ id (.row e s m f true), nx⟩ := fun N B0 Γ w a hc => by
  obtain ⟨Γ', b, hb, rfl, h1, h2⟩ := hc.freeze hg
  refine ⟨_, ⟨h1.size, fun t' => ?_, h1.ok, h1.free, h1.le, h1.dfs⟩, h2⟩
  rw [lk_cons]
  split
  · rename_i ht
    subst ht
    have := hc.env t
    rw [h] at this
    cases this with
    | c _ _ hr =>
      obtain ⟨b', hb', hd⟩ := ms_data hc.ok hg hn hr
      rw [hb] at hb'; cases hb'
      exact .c _ _ (hd _ (fun k hk => .inl hk) (fun hcc => .inr ⟨rfl, hcc⟩))
  · exact h1.env t'
/-- Slots say less. -/
theorem Mv.env {base : Nat} {env env' : List (Nat × V)} {σ : Store} {nx : Nat} (h : ∀ t, RI (lk env t) (lk env' t)) : Mv base ⟨env, σ, nx⟩ ⟨env', σ, nx⟩ := fun _ _ Γ _ _ hc => ⟨Γ, hc.same h fun _ => rfl, Ext.refl _ _ _ _⟩
theorem Mv.dd {base : Nat} {env : List (Nat × V)} {σ : Store} {nx : Nat} : Mv base ⟨env, σ, nx⟩ ⟨Pw.dd env [], σ, nx⟩ :=
  Mv.env fun t => by rw [lk_dd _ _ _ (by simp)]; exact RI.refl _
structure MvQ (base : Nat) (Q : Exit → St → Prop) (e : Exit) (st : St) : Prop where
  h : ∃ st1, Mv base st st1 ∧ Q e st1
section
variable {P : Program} {N base : Nat} {st st1 : St} {Q : Exit → St → Prop} {x : LCode}
theorem Sat.mv (h : Sat P N base x st (MvQ base Q)) : Sat P N base x st Q := by
  intro ro n B0 own code hro hl Γ0 Γ w0 w σ0 a hc hext
  refine wpIn_mono (h ro n B0 own code hro hl Γ0 Γ w0 w σ0 a hc hext) (fun e a' w' ⟨Γ', st', h1, h2, ⟨st2, h3, h4⟩⟩ => ?_)
  obtain ⟨Γ'', h5, h6⟩ := h3 _ _ _ _ _ h1
  exact ⟨Γ'', st2, h5, h2.trans h6, h4⟩
theorem Sat.from (hm : Mv base st st1) (h : Sat P N base x st1 Q) : Sat P N base x st Q := by
  intro ro n B0 own code hro hl Γ0 Γ w0 w σ0 a hc hext
  obtain ⟨Γ', h1, h2⟩ := hm _ _ _ _ _ hc
  exact h ro n B0 own code hro hl Γ0 Γ' w0 w σ0 a h1 (hext.trans h2)
theorem Ops.from {ops : List LIns} {K : St → Prop} (hm : Mv base st st1) (h : Ops P N base ops st1 K) : Ops P N base ops st K := by
  intro ro n B0 own opsA idx os hl hidx Γ0 Γ w0 w σ0 a hc hext
  obtain ⟨Γ', h1, h2⟩ := hm _ _ _ _ _ hc
  exact h ro n B0 own opsA idx os hl hidx Γ0 Γ' w0 w σ0 a h1 (hext.trans h2)
theorem MvQ.stay {e : Exit} (h : Q e st) : MvQ base Q e st := ⟨st, Mv.refl _ _, h⟩
theorem MvQ.from {e : Exit} (hm : Mv base st st1) (h : MvQ base Q e st1) : MvQ base Q e st := by
  obtain ⟨s2, h1, h2⟩ := h
  exact ⟨s2, hm.trans h1, h2⟩
end
section
variable (P : Program) (N base : Nat)
/-- Where the walk stops at a loop. -/
structure SatL (x : LCode) (st : St) (Q : Exit → St → Prop) : Prop where
  h : Sat P N base x.strip st Q
def wp : LCode → St → (Exit → St → Prop) → Prop
  | .skip, st, Q => Q .normal st
  | .exit id, st, Q => Q (.exit id) st
  | .ret, st, Q => Q .ret st
  | .region ops, ⟨env, σ, nx⟩, Q => wpOps P N base ops env σ nx none fun st => Q .normal st
  | .regionD ops M _, ⟨env, σ, nx⟩, Q => wpD P N base M ops env σ nx none [] fun st => Q .normal st
  | .seq a b, st, Q => wp a st fun e st => match e with
    | .normal => wp b st Q
    | e => Q e st
  | .cond c a b, ⟨env, σ, nx⟩, Q => match evo env c with
    | .c .tru => wp a ⟨env, σ, nx⟩ Q
    | .c .fls => wp b ⟨env, σ, nx⟩ Q
    | .c (.d (.v (.bool p))) => match c with
      | .tmp t => Fork p (wp a ⟨(t, .c .tru) :: env, σ, nx⟩ Q) (wp b ⟨(t, .c .fls) :: env, σ, nx⟩ Q)
      | _ => False
    | _ => False
  | .block id a, st, Q => wp a st fun e st => match e with
    | .exit k => match Nat.beq k id with
      | true => Q .normal st
      | false => Q (.exit k) st
    | e => Q e st
  | .loop a, st, Q => SatL P N base (.loop a) st (MvQ base Q)
  | .rangeFunc f ps a c, st, Q => SatL P N base (.rangeFunc f ps a c) st (MvQ base Q)
  | .label, st, Q => Q .normal st
  | .stop a, st, Q => SatL P N base a st Q
  | .scope a, st, Q => wp a st fun e st => match e with
    | .goto _ => False
    | e => Q e st
variable {P N base}
theorem wp_spec [m : Mix P] : ∀ (x : LCode) (st : St) (Q : Exit → St → Prop), wp P N base x st Q → Sat P N base x.strip st Q
  | .skip, st, Q, h => Sat.skip h
  | .exit id, st, Q, h => Sat.exit h
  | .ret, st, Q, h => Sat.ret h
  | .region ops, ⟨env, σ, nx⟩, Q, h => Sat.region (Ops.wp h)
  | .regionD ops M ks, ⟨env, σ, nx⟩, Q, h => Sat.drawn m.h (OpsD.wp h)
  | .seq a b, st, Q, h => Sat.seq ((wp_spec a st _ h).mono fun e st h => by
    cases e with
    | normal => exact wp_spec b st Q h
    | _ => exact h)
  | .cond c a b, ⟨env, σ, nx⟩, Q, h => by
    unfold wp at h
    split at h
    · rename_i hv; exact Sat.condT hv (wp_spec a _ Q h)
    · rename_i hv; exact Sat.condF hv (wp_spec b _ Q h)
    · rename_i p hv
      split at h
      · exact Sat.cond hv (fun hh => wp_spec a _ Q (h.t hh)) (fun hh => wp_spec b _ Q (h.f hh))
      · exact h.elim
    · exact h.elim
  | .block id a, st, Q, h => Sat.block ((wp_spec a st _ h).mono fun e st h => by
    cases e with
    | exit k =>
      simp only [blockQ]
      simp only at h
      split at h
      · rename_i hb; rw [if_pos hb]; exact h
      · rename_i hb; rw [if_neg (by rw [hb]; simp)]; exact h
    | _ => exact h)
  | .loop a, st, Q, h => Sat.mv h.h
  | .rangeFunc f ps a c, st, Q, h => Sat.mv h.h
  | .label, st, Q, h => Sat.label h
  | .stop a, st, Q, h => h.h
  | .scope a, st, Q, h => Sat.scope ((wp_spec a st _ h).mono fun e st h => by
    cases e with
    | goto l => exact h.elim
    | _ => exact h)
end
end Go.Pw

set_option linter.unusedVariables false
namespace Go.Pw
open Go Go.RowKit
section
variable {P : Program} {N base : Nat} {st : St} {Q : Exit → St → Prop}
theorem low_rangeFunc {own : List Nat} {code : Code} {f : Operand} {ps : List Nat} {la lb : LCode} (h : lowCode P N own code = some (.rangeFunc f ps la lb)) :
    ∃ qs a c, code = .rangeFunc f qs a c ∧ qs.toList = ps ∧ lowCode P N own a = some la ∧ lowCode P N own c = some lb := by
  cases code with
  | rangeFunc g qs a c =>
    simp only [lowCode, Option.bind_eq_bind, Option.bind_eq_some_iff, Option.some.injEq] at h
    obtain ⟨x, hx, y, hy, h⟩ := h
    cases h
    exact ⟨qs, a, c, rfl, rfl, hx, hy⟩
  | region id ops draw =>
    simp only [lowCode, Option.bind_eq_bind, Option.bind_eq_some_iff] at h
    obtain ⟨l, hl, h⟩ := h
    split at h
    · split at h <;> simp at h
    · simp at h
  | _ => simp [lowCode, Option.bind_eq_some_iff] at h
/-- A new block that is nobody's. -/
theorem alloc_mark {base : Nat} {Γ : Cx} {w : World} {σ : Store} (h : StoreOk Γ w σ) (o : Obj) : StoreOk Γ (w.alloc o) σ ∧ Ext base Γ w σ Γ (w.alloc o) σ :=
  ⟨h.keep (CxLe.refl _) (fun k hI => by have := h.im k hI; simp; omega) (alloc_same h o) (fun k hl => heap_alloc (h.live_lt hl)) (fun k hl hI => h.not_live hI hl),
    Ext.grow (Γ := Γ) (Γ' := Γ) (w := w) (w' := w.alloc o) (fun _ _ => rfl) (fun _ _ => rfl) (fun _ h => h) (fun k h => .inl h) rfl rfl rfl (by simp) (fun k hk _ => heap_alloc hk) _ (fun k hk => .inl hk)⟩
/-- How a range over a function ends. -/
def rangeQ (id : Nat) (env : List (Nat × V)) (Q : Exit → St → Prop) (σ' : Store) (nx' : Nat) : Prop :=
  match get σ' id with
  | some (.lp _ .ready none _) => Q .normal ⟨env, del σ' id, nx'⟩
  | some (.lp _ .done (some .ret) _) => Q .ret ⟨env, del σ' id, nx'⟩
  | some (.lp _ .done (some (.exit k)) _) => Q (.exit k) ⟨env, del σ' id, nx'⟩
  | _ => False
theorem rangeQ_iff {id : Nat} {env : List (Nat × V)} {σ' : Store} {nx' : Nat} (h : rangeQ id env Q σ' nx') :
    ∃ env' s j R, get σ' id = some (.lp env' s j R) ∧ s ≠ .busy ∧ ((j = none ∧ Q .normal ⟨env, del σ' id, nx'⟩) ∨ (j = some .ret ∧ Q .ret ⟨env, del σ' id, nx'⟩) ∨ ∃ k, j = some (.exit k) ∧ Q (.exit k) ⟨env, del σ' id, nx'⟩) := by
  unfold rangeQ at h
  split at h
  · rename_i e R hg; exact ⟨_, _, _, _, hg, by simp, .inl ⟨rfl, h⟩⟩
  · rename_i e R hg; exact ⟨_, _, _, _, hg, by simp, .inr (.inl ⟨rfl, h⟩)⟩
  · rename_i e k R hg; exact ⟨_, _, _, _, hg, by simp, .inr (.inr ⟨_, rfl, h⟩)⟩
  · exact h.elim
theorem Sat.rangeFunc {f : Operand} {ps : List Nat} {la lb : LCode} {fid : FuncId} {ids : List Nat} (hf : evo st.env f = .c (.fn fid ids)) (hps : ps.all (fun p => decide (p < N)) = true)
    (h : CallS P fid (.c (.yd st.nx) :: ids.map fun k => .c (.bp k 0)) ((st.nx, .lp st.env .ready none (RR P N ps la lb)) :: st.σ) (st.nx + 1) fun _ σ' nx' => rangeQ st.nx st.env Q σ' nx') :
    Sat P N base (.rangeFunc f ps la lb) st Q := by
  intro ro n B0 own code hro hl Γ0 Γ w0 w σ0 a hc hext
  obtain ⟨qs, ca, cb, rfl, hqs, hla, hlb⟩ := low_rangeFunc hl
  have hro' := hro rfl
  subst hro'
  have hfr := hc.ev f
  rw [hf] at hfr
  obtain ⟨bs, hbl, hbs, hfu⟩ : ∃ bs : List Nat, bs.length = ids.length ∧ (∀ (j i : Nat), ids[j]? = some i → ∃ b, Γ.ρ i = some b ∧ bs[j]? = some b) ∧ a.eval f = .func (.func fid) #[] (bs.map fun b => ptr b 0).toArray := by
    generalize a.eval f = u at hfr ⊢
    cases hfr with | c _ _ h => exact h
  refine wpIn_rangeFunc (fun fn _ => ?_)
  let wa := w.alloc (.deferred (some []))
  have hsza : wa.heap.size = w.heap.size + 1 := by simp [wa]
  let r0 : Loop := { state := .ready, pending := none, fn, tmps := a.tmps, params := qs, assign := ca, body := cb, defers := w.heap.size }
  let w1 := wa.alloc (.loop r0)
  obtain ⟨hsta, hexta⟩ := alloc_mark (base := st.nx) hc.ok (.deferred (some []))
  have hid := hc.free st.nx (Nat.le_refl _)
  have hRR : RR P N ps la lb { r0 with state := .ready, pending := none } :=
    ⟨hc.size, hqs, fun p hp => by simpa using List.all_eq_true.1 hps p hp, own, hla, hlb⟩
  have hent : EntOk (Γ.upd st.nx wa.heap.size none) (wa.alloc (.loop r0)) st.nx wa.heap.size (.lp st.env .ready none (RR P N ps la lb)) := by
    refine ⟨fun hI => ?_, r0, heap_alloc_new' _ _, rfl, rfl, hRR, fun t => ?_⟩
    · have := hc.ok.im _ hI; omega
    · exact (hc.env t).mono (CxLe.upd _ _ _ hid) (fun k hk => by
        have := hc.ok.im k hk
        rw [heap_alloc (by omega), show wa.heap[k]? = w.heap[k]? from heap_alloc this])
  obtain ⟨hst1, hext1⟩ := alloc_ent (base := st.nx) hsta hid (Nat.le_refl _) (.loop r0) none _ hent
  have hrep : RepL (Γ.upd st.nx wa.heap.size none) w1 (.c (.yd st.nx) :: ids.map fun k => .c (.bp k 0)) (#[Value.func (.yield (w.heap.size + 1)) #[] #[]] ++ (bs.map fun b => ptr b 0).toArray) := by
    refine ⟨by simp [hbl], fun j v u hv hu => ?_⟩
    cases j with
    | zero =>
      simp at hv hu
      subst hv; subst hu
      exact .c _ _ ⟨wa.heap.size, upd_ρ_same, by rw [hsza]⟩
    | succ j =>
      simp only [List.getElem?_cons_succ, List.getElem?_map, Option.map_eq_some_iff] at hv
      obtain ⟨k, hk, rfl⟩ := hv
      obtain ⟨b, hb, hb'⟩ := hbs j k hk
      rw [Array.getElem?_append_right (by simp)] at hu
      simp [hb'] at hu
      subst hu
      refine .c _ _ ⟨b, ?_, rfl⟩
      rw [upd_ρ (fun e => by rw [e] at hb; rw [hid] at hb; cases hb)]; exact hb
  have hfree1 : ∀ id, st.nx + 1 ≤ id → (Γ.upd st.nx wa.heap.size none).ρ id = none := fun id h => by
    rw [upd_ρ (by omega)]; exact hc.free id (by omega)
  have hres : (resolve a.eval (rangeCall f (w.heap.size + 1)) 0).run P w1 = .ok { target := .fn (.func fid) (bs.map fun b => ptr b 0).toArray, args := #[.func (.yield (w.heap.size + 1)) #[] #[]] } w1 := by
    unfold resolve
    simp only [hfu, Deferred.ofValue]
    simp [Act.eval]
  have he : (Instr.enterLoop fn a.tmps qs ca cb (FW none).round).run P w = .ok (w.heap.size + 1, [mkD w.heap.size]) w1 := run_enterLoop_outer fn a.tmps qs ca cb
  have hinv : (invoke (Target.fn (.func fid) (bs.map fun b => ptr b 0).toArray) #[.func (.yield (w.heap.size + 1)) #[] #[]]).run P w1 = .ok (.enter fid (#[.func (.yield (w.heap.size + 1)) #[] #[]] ++ (bs.map fun b => ptr b 0).toArray)) w1 := h.1 _ _
  have hcall := h.2 _ w1 _ hst1 hfree1 hrep
  have hpost : ∀ e w', (∃ u v Γ' σ' nx', e = .returned u ∧ rangeQ st.nx st.env Q σ' nx' ∧ RepV Γ' w' v u ∧ StoreOk Γ' w' σ' ∧ Ext (st.nx + 1) (Γ.upd st.nx wa.heap.size none) w1 ((st.nx, .lp st.env .ready none (RR P N ps la lb)) :: st.σ) Γ' w' σ' ∧ (∀ id, nx' ≤ id → Γ'.ρ id = none) ∧ st.nx + 1 ≤ nx') →
      rangePost (FW none) n P (w.heap.size + 1) (Post N B0 base Γ0 w0 σ0 Q) { a with defers := [mkD w.heap.size] ++ a.defers } e w' := by
    rintro e w' ⟨u, v, Γ', σ', nx', rfl, hR, hv, hst', hext', hfree', hle'⟩
    obtain ⟨env', s, j, R, hlp, hsb, hj⟩ := rangeQ_iff hR
    obtain ⟨b, r, hb, hh, hs, hjr, _, _⟩ := lp_rec hst' hlp
    have hb1 : b = w.heap.size + 1 := by
      rw [hext'.ρ st.nx (Nat.lt_succ_self _), upd_ρ_same] at hb
      cases hb; rw [hsza]
    subst hb1
    have hend := run_endLoop (P := P) hh (by rw [hs]; exact hsb)
    let w4 := w'.putObj (w.heap.size + 1) (.loop { r with state := .exhausted })
    obtain ⟨hst4, hext4⟩ := set_lp (s' := .exhausted) (j' := r.pending) hst' hlp hb hh
    have hsub : Sub (del σ' st.nx) (set σ' st.nx (.lp env' .exhausted r.pending R)) := fun id x hx => by
      by_cases he : id = st.nx
      · subst he; rw [get_del_same] at hx; cases hx
      · rw [get_del_other he] at hx; rw [get_set_other he]; exact hx
    have hst5 : StoreOk Γ' w4 (del σ' st.nx) := hst4.sub hsub
    have hE : Ext st.nx Γ wa st.σ Γ' w4 (del σ' st.nx) := by
      have h1 := (hext1.trans (hext'.mono (Nat.le_succ _))).trans (hext4 st.nx)
      exact ⟨h1.os, h1.tape, h1.output, h1.size, h1.im, h1.new, h1.ρ, h1.κ, h1.keep, fun k hk => h1.live k (live_sub hsub hk)⟩
    have hEw : Ext st.nx Γ w st.σ Γ' w4 (del σ' st.nx) := hexta.trans hE
    have hle : CxLe Γ Γ' := ext_cxle hEw hc.free
    have hsame := hEw.same hc.ok
    have hconc : Conc N B0 base Γ' w4 ⟨st.env, del σ' st.nx, nx'⟩ { a with defers := [mkD w.heap.size] ++ a.defers } := by
      refine ⟨hc.size, fun t => (hc.env t).mono hle hsame, hst5, hfree', by have := hc.le; show base ≤ nx'; omega, ?_⟩
      obtain ⟨Ds, d1, d2, d3⟩ := hc.dfs
      have hnl : ¬ Live Γ st.σ w.heap.size := fun hl => Nat.lt_irrefl _ (hc.ok.live_lt hl)
      refine ⟨w.heap.size :: Ds, by simp [d1], ⟨List.nodup_cons.2 ⟨fun hm => ?_, d2.1⟩, Nat.le_trans d2.2 hEw.size⟩, fun D hD => ?_⟩
      · have := (Array.getElem?_eq_some_iff.1 (d3 _ hm).2.2.2).1; omega
      · rcases List.mem_cons.1 hD with rfl | hD
        · refine ⟨d2.2, fun hi => ?_, fun hlv => ?_, ?_⟩
          · rcases hE.new _ hi with h1 | h1 | h1
            · exact Nat.lt_irrefl _ (hc.ok.im _ h1)
            · omega
            · exact hnl h1
          · rcases hE.live _ hlv with h1 | h1
            · exact hnl h1
            · omega
          · rw [hE.keep _ (by omega) hnl]; exact heap_alloc_new' _ _
        · obtain ⟨d4, d5, d6, d7⟩ := d3 D hD
          have hlt : D < w.heap.size := (Array.getElem?_eq_some_iff.1 d7).1
          refine ⟨d4, fun hi => ?_, fun hlv => ?_, (hEw.keep D hlt d6).trans d7⟩
          · rcases hEw.new D hi with h1 | h1 | h1
            · exact d5 h1
            · omega
            · exact d6 h1
          · rcases hEw.live D hlv with h1 | h1
            · exact d6 h1
            · omega
    have hEx : Ext base Γ0 w0 σ0 Γ' w4 (del σ' st.nx) := hext.trans (hEw.mono hc.le)
    refine ⟨r.pending, w4, hend, ?_⟩
    rcases hj with ⟨rfl, hq⟩ | ⟨rfl, hq⟩ | ⟨k, rfl, hq⟩
    · rw [hjr]; exact ⟨Γ', _, hconc, hEx, hq⟩
    · rw [hjr]; exact wpIn_ret ⟨Γ', _, hconc, hEx, hq⟩
    · rw [hjr]; exact wpIn_exit ⟨Γ', _, hconc, hEx, hq⟩
  exact ⟨w.heap.size + 1, [mkD w.heap.size], w1, _, w1, fid, _, w1, he, hres, fun _ _ => trivial, hinv, fun h => by simp [FW, Fence.wide] at h, Calls.fw (hcall.mono hpost)⟩
end
end Go.Pw

set_option linter.unusedVariables false
set_option linter.unusedSectionVars false
namespace Go.Pw
open Go Go.RowKit
/-- A function's lowered code. -/
structure FnOk (P : Program) (f : FuncId) (N : Nat) (lc : LCode) (rl : List RL) : Prop where
  ent : Ent1 P f
  ok : ∃ own fn, P.funcs[f]? = some fn ∧ lowF P own fn = some (N, lc.strip, rl)
section
variable {P : Program} [m : Mix P] {N base : Nat}
theorem Sat.of {x : LCode} {st : St} {Q : Exit → St → Prop} (h : wp P N base x st Q) : Sat P N base x.strip st Q := wp_spec x st Q h
theorem PFD.of {f : FuncId} {lc : LCode} {rl : List RL} {args vs : List V} (hf : FnOk P f N lc rl) (hN : Nat.ble args.length N = true) (hc : cloL args)
    (h : wp P N 0 lc ⟨argEnv 0 args, [], 0⟩ (RetQ 0 rl vs [] 0)) : PFD P f args (retV vs) := by
  obtain ⟨hent, own, fn, h1, h2⟩ := hf
  exact PFD.enter vs h1 hent h2 (Nat.le_of_ble_eq_true hN) hc (Sat.of h)
def normC : C → C
  | .tru => .d (.v (.bool true))
  | .fls => .d (.v (.bool false))
  | c => c
def normA : V → V
  | .c x => .c (normC x)
  | .agg cs => .agg (cs.map normC)
  | v => v
theorem normC_eq (c : C) : CEq c (normC c) := by cases c <;> first | exact .tru | exact .fls | exact .refl _
theorem normA_eq (v : V) : VEq v (normA v) := by
  cases v with
  | c x => exact .c _ _ (normC_eq x)
  | agg cs =>
    refine .agg _ _ (by simp) (fun i x y hx hy => ?_)
    simp only [List.getElem?_map, hx, Option.map_some, Option.some.injEq] at hy
    subst hy
    exact normC_eq x
  | _ => exact .refl _
theorem ris_norm : ∀ (xs : List V), RIs xs (xs.map normA)
  | [] => .nil
  | x :: xs => .cons (normA_eq x).ri (ris_norm xs)
theorem VEqs.ris : ∀ {xs ys : List V}, VEqs xs ys → RIs xs ys
  | [], [], _ => .nil
  | x :: xs, y :: ys, h => .cons h.1.ri (VEqs.ris h.2)
  | [], _ :: _, h => h.elim
  | _ :: _, [], h => h.elim
/-- Forms of the arguments: as they are (bools known or not). -/
structure Fits (env : List (Nat × V)) (xs : List Operand) (args : List V) : Prop where
  h : RIs (xs.map (evo env)) args
theorem Fits.eq {env : List (Nat × V)} {xs : List Operand} {args : List V} (h : (xs.map (evo env)).map normA = args) : Fits env xs args := ⟨h ▸ ris_norm _⟩
theorem Fits.veq {env : List (Nat × V)} {xs : List Operand} {args : List V} (h : VEqs (xs.map (evo env)) args) : Fits env xs args := ⟨h.ris⟩
theorem Ops.pc {dst : Option Nat} {fop : Operand} {xs : List Operand} {g : Option (Nat × Bool)} {rest : List LIns} {env : List (Nat × V)} {σ : Store} {nx : Nat} {K : St → Prop} {f : FuncId} {args : List V} {v : V} (hf : evo env fop = .c (.fn f [])) (ha : Fits env xs args) (hc : PFD P f args v)
    (hg : guardOf env g = .run) (h : putK dst v env fun env' => wpOps P N base rest env' σ nx none K) : OpsL P N base (⟨dst, .call fop xs, g⟩ :: rest) ⟨env, σ, nx⟩ K := by
  rw [putK_eq] at h
  exact ⟨Ops.pcall (i := ⟨dst, .call fop xs, g⟩) (st := ⟨env, σ, nx⟩) hg rfl hf ha.h hc (Ops.wp h)⟩
theorem OpsD.pc {M : List Nat} {acc : List (Bool × List Nat)} {dst : Option Nat} {fop : Operand} {xs : List Operand} {g : Option (Nat × Bool)} {rest : List LIns} {env : List (Nat × V)} {σ : Store} {nx : Nat} {K : St → Prop} {f : FuncId} {args : List V} {v : V} (hf : evo env fop = .c (.fn f [])) (ha : Fits env xs args) (hc : PFD P f args v)
    (hg : guardOf env g = .run) (h : putK dst v env fun env' => wpD P N base M rest env' σ nx none ((false, []) :: acc) K) : OpsDL P N base M (⟨dst, .call fop xs, g⟩ :: rest) ⟨env, σ, nx⟩ acc K := by
  rw [putK_eq] at h
  exact ⟨OpsD.pcall (k := 0) (ks := []) (i := ⟨dst, .call fop xs, g⟩) (st := ⟨env, σ, nx⟩) hg rfl hf ha.h hc (OpsD.wp h)⟩
theorem OpsL.same {ops : List LIns} {st : St} {K : St → Prop} (h : OpsL P N base ops st K) : OpsL P N base ops st K := h
theorem OpsDL.same {M : List Nat} {ops : List LIns} {st : St} {acc : List (Bool × List Nat)} {K : St → Prop} (h : OpsDL P N base M ops st acc K) : OpsDL P N base M ops st acc K := h
theorem Fork.same {b : Bool} {p q : Prop} (h : Fork b p q) : Fork b p q := h
/-- A value, forced. -/
def frV (v : V) (k : V → Prop) : Prop :=
  match v with
  | .c x => k (.c x)
  | .agg cs => k (.agg cs)
  | .tup vs => k (.tup vs)
  | .unk => k .unk
theorem frV_eq (v : V) (k : V → Prop) : frV v k = k v := by cases v <;> rfl
def argK : Nat → List V → (List (Nat × V) → Prop) → Prop
  | _, [], k => k []
  | n, v :: vs, k => frV v fun v => frNat (n + 1) fun n' => argK n' vs fun e => k ((n, v) :: e)
theorem argK_eq : ∀ (vs : List V) (n : Nat) (k : List (Nat × V) → Prop), argK n vs k = k (argEnv n vs)
  | [], n, k => rfl
  | v :: vs, n, k => by simp only [argK, frV_eq, frNat_eq, argK_eq vs, argEnv]
def callQ (rl : List RL) (R : V → Store → Nat → Prop) : Exit → St → Prop
  | .normal, st => match resAll st.env st.σ rl with
    | some vs => R (retV vs) st.σ st.nx
    | none => False
  | .ret, st => match resAll st.env st.σ rl with
    | some vs => R (retV vs) st.σ st.nx
    | none => False
  | _, _ => False
theorem CallS.of {f : FuncId} {lc : LCode} {rl : List RL} {args : List V} {σ : Store} {nx : Nat} {R : V → Store → Nat → Prop} (hf : FnOk P f N lc rl) (hN : Nat.ble args.length N = true)
    (h : argK 0 args fun env => wp P N nx lc ⟨env, σ, nx⟩ (callQ rl R)) : CallS P f args σ nx R := by
  rw [argK_eq] at h
  obtain ⟨hent, own, fn, h1, h2⟩ := hf
  refine CallS.enter h1 hent h2 (Nat.le_of_ble_eq_true hN) ((Sat.of h).mono fun e st h => ?_)
  unfold callQ at h
  split at h
  · split at h
    · rename_i vs hv; exact ⟨.inl rfl, vs, hv, h⟩
    · exact h.elim
  · split at h
    · rename_i vs hv; exact ⟨.inr rfl, vs, hv, h⟩
    · exact h.elim
  · exact h.elim
theorem Ops.cs {dst : Option Nat} {fop : Operand} {xs : List Operand} {g : Option (Nat × Bool)} {rest : List LIns} {env : List (Nat × V)} {σ : Store} {nx : Nat} {K : St → Prop} {f : FuncId} {ids : List Nat} (hf : evo env fop = .c (.fn f ids)) (hg : guardOf env g = .run)
    (h : CallS P f (xs.map (evo env) ++ ids.map fun k => .c (.bp k 0)) σ nx fun v σ' nx' => frV v fun v => frNat nx' fun nx' => putK dst v env fun env' => wpOps P N base rest env' σ' nx' none K) : OpsL P N base (⟨dst, .call fop xs, g⟩ :: rest) ⟨env, σ, nx⟩ K := by
  refine ⟨?_⟩
  refine Ops.callS (i := ⟨dst, .call fop xs, g⟩) (st := ⟨env, σ, nx⟩) hg rfl hf ?_
  simp only [frV_eq, frNat_eq, putK_eq] at h
  exact ⟨h.1, fun Γ w us h1 h2 h3 => (h.2 Γ w us h1 h2 h3).mono fun e w' ⟨u, v, Γ', σ', nx', q1, q2, q3⟩ => ⟨u, v, Γ', σ', nx', q1, Ops.wp q2, q3⟩⟩
structure Again0 {ι : Type} (inv : ι → List (Nat × V)) (pre : ι → Prop) (μ : ι → Nat) (i : ι) (st : St) : Prop where
  h : ∃ j, pre j ∧ μ j < μ i ∧ envIs st.env (inv j)
def lpQ0 {ι : Type} (inv : ι → List (Nat × V)) (pre : ι → Prop) (μ : ι → Nat) (i : ι) (Q : Exit → St → Prop) : Exit → St → Prop
  | .normal, st => Again0 inv pre μ i st
  | e, st => Q e st
structure Again {ι : Type} (base : Nat) (inv : ι → St) (pre : ι → Prop) (μ : ι → Nat) (i : ι) (st : St) : Prop where
  h : ∃ j π, pre j ∧ μ j < μ i ∧ Wk base st (inv j) π
def lpQ {ι : Type} (base : Nat) (inv : ι → St) (pre : ι → Prop) (μ : ι → Nat) (i : ι) (Q : Exit → St → Prop) : Exit → St → Prop
  | .normal, st => Again base inv pre μ i st
  | e, st => Q e st
theorem Sat.lp0 {x : LCode} {st : St} {Q : Exit → St → Prop} {ι : Type} (inv : ι → List (Nat × V)) (pre : ι → Prop) (μ : ι → Nat) (i0 : ι) (h0 : pre i0) (hw : envIs st.env (inv i0))
    (round : ∀ i, pre i → wp P N base x ⟨inv i, [], base⟩ (lpQ0 inv pre μ i Q)) : SatL P N base (.loop x) st Q :=
  ⟨Sat.loop0 inv pre μ i0 h0 hw fun i hi => (Sat.of (round i hi)).mono fun e st h => by
    cases e with
    | normal => exact h.h
    | _ => exact h⟩
/-- Actual names for the head's names from base on. -/
def nmAt (base : Nat) (l : List Nat) (i : Nat) : Nat :=
  match Nat.ble base i with
  | true => l.getD (i - base) i
  | false => i
def distinct : List Nat → Bool
  | [] => true
  | x :: l => !(memN x l) && distinct l
def geAll (base : Nat) : List Nat → Bool
  | [] => true
  | x :: l => Nat.ble base x && geAll base l
def nmOk (base nx0 : Nat) (l : List Nat) : Bool := Nat.ble base nx0 && Nat.ble nx0 (base + l.length) && distinct l && geAll base l
theorem distinct_inj : ∀ {l : List Nat}, distinct l = true → ∀ (i j x : Nat), l[i]? = some x → l[j]? = some x → i = j
  | [], _, i, j, x, h, _ => by simp at h
  | y :: l, hd, i, j, x, hi, hj => by
    simp only [distinct, Bool.and_eq_true, Bool.not_eq_true'] at hd
    have hn : y ∉ l := fun h => by rw [memN_iff.2 h] at hd; cases hd.1
    cases i with
    | zero =>
      cases j with
      | zero => rfl
      | succ j =>
        simp only [List.getElem?_cons_zero, Option.some.injEq] at hi
        subst hi
        exact absurd (List.mem_of_getElem? (by simpa using hj)) hn
    | succ i =>
      cases j with
      | zero =>
        simp only [List.getElem?_cons_zero, Option.some.injEq] at hj
        subst hj
        exact absurd (List.mem_of_getElem? (by simpa using hi)) hn
      | succ j => rw [distinct_inj hd.2 i j x (by simpa using hi) (by simpa using hj)]
theorem geAll_get : ∀ {base : Nat} {l : List Nat}, geAll base l = true → ∀ x ∈ l, base ≤ x
  | _, [], _, x, h => by cases h
  | base, y :: l, hd, x, h => by
    simp only [geAll, Bool.and_eq_true] at hd
    rcases List.mem_cons.1 h with rfl | h
    · exact Nat.le_of_ble_eq_true hd.1
    · exact geAll_get hd.2 x h
theorem nmAt_lo {l : List Nat} {i : Nat} (h : i < base) : nmAt base l i = i := by
  unfold nmAt
  split
  · rename_i hb; have := Nat.le_of_ble_eq_true hb; omega
  · rfl
theorem nmAt_hi {l : List Nat} {i : Nat} (h : base ≤ i) : nmAt base l i = l.getD (i - base) i := by
  unfold nmAt
  split
  · rfl
  · rename_i hb; rw [Nat.ble_eq_true_of_le h] at hb; cases hb
def cLtB (n : Nat) : C → Bool
  | .fn _ ids => ltAll n ids
  | .bp id _ => Nat.blt id n
  | .ep id _ _ _ => Nat.blt id n
  | .ms id _ => Nat.blt id n
  | .yd id => Nat.blt id n
  | .mp id => Nat.blt id n
  | .sb id _ => Nat.blt id n
  | _ => true
  where ltAll (n : Nat) : List Nat → Bool
  | [] => true
  | i :: is => Nat.blt i n && ltAll n is
def csLtB (n : Nat) : List C → Bool
  | [] => true
  | c :: cs => cLtB n c && csLtB n cs
def vLtB (n : Nat) : V → Bool
  | .c x => cLtB n x
  | .agg cs => csLtB n cs
  | .tup _ => false
  | .unk => true
def envLtB (n : Nat) : List (Nat × V) → Bool
  | [] => true
  | (_, v) :: e => vLtB n v && envLtB n e
def eLtB (n : Nat) : Ent → Bool
  | .box cs => csLtB n cs
  | .row .. => true
  | .lp env _ _ _ => envLtB n env
  | .mp .. => true
def stoLtB (n : Nat) : Store → Bool
  | [] => true
  | (i, e) :: σ => Nat.blt i n && eLtB n e && stoLtB n σ
theorem blt_iff {a b : Nat} : Nat.blt a b = true ↔ a < b := by simp [Nat.blt_eq]
theorem ltAll_sound {n : Nat} : ∀ {l : List Nat}, cLtB.ltAll n l = true → ∀ i ∈ l, i < n
  | [], _, i, h => by cases h
  | x :: l, h, i, hi => by
    simp only [cLtB.ltAll, Bool.and_eq_true] at h
    rcases List.mem_cons.1 hi with rfl | hi
    · exact blt_iff.1 h.1
    · exact ltAll_sound h.2 i hi
theorem cLtB_sound {n : Nat} {c : C} (h : cLtB n c = true) : cLt n c := by
  cases c with
  | fn f ids => exact fun i hi => ltAll_sound h i hi
  | bp | ep | ms | yd | mp | sb => exact blt_iff.1 h
  | _ => trivial
theorem csLtB_sound {n : Nat} : ∀ {cs : List C}, csLtB n cs = true → csLt n cs
  | [], _ => trivial
  | c :: cs, h => by simp only [csLtB, Bool.and_eq_true] at h; exact ⟨cLtB_sound h.1, csLtB_sound h.2⟩
theorem vLtB_sound {n : Nat} {v : V} (h : vLtB n v = true) : vLt n v := by
  cases v with
  | c x => exact cLtB_sound h
  | agg cs => exact csLtB_sound h
  | tup => cases h
  | unk => trivial
theorem envLtB_sound {n : Nat} : ∀ {e : List (Nat × V)}, envLtB n e = true → envLt n e
  | [], _ => trivial
  | (_, v) :: e, h => by simp only [envLtB, Bool.and_eq_true] at h; exact ⟨vLtB_sound h.1, envLtB_sound h.2⟩
theorem eLtB_sound {n : Nat} {e : Ent} (h : eLtB n e = true) : eLt n e := by
  cases e with
  | box cs => exact csLtB_sound h
  | row => trivial
  | lp => exact envLtB_sound h
  | mp => trivial
/-- The slots and the entries of a head: what is, is what the head says (renamed). -/
def envEq (π : Nat → Nat) (env : List (Nat × V)) : List (Nat × V) → Prop
  | [] => True
  | (t, v) :: e0 => VEq (lk env t) (rnV π v) ∧ envEq π env e0
def stoEq (π : Nat → Nat) (σ : Store) : Store → Prop
  | [] => True
  | (id, x) :: σ0 => (match get σ (π id) with | some y => EEq y (rnE π x) | none => False) ∧ stoEq π σ σ0
theorem envEq.ok {n : Nat} {π : Nat → Nat} {env : List (Nat × V)} : ∀ {e0 : List (Nat × V)}, envLtB n e0 = true → envEq π env e0 → envOk n π env e0
  | [], _, _ => trivial
  | (t, v) :: e0, hl, h => by
    simp only [envLtB, Bool.and_eq_true] at hl
    exact ⟨⟨h.1, vLtB_sound hl.1⟩, envEq.ok hl.2 h.2⟩
theorem stoEq.ok {n : Nat} {π : Nat → Nat} {σ : Store} : ∀ {σ0 : Store}, stoLtB n σ0 = true → stoEq π σ σ0 → stoOk n π σ σ0
  | [], _, _ => stoOk.nil
  | (id, x) :: σ0, hl, h => by
    simp only [stoLtB, Bool.and_eq_true] at hl
    refine stoOk.cons (blt_iff.1 hl.1.1) (eLtB_sound hl.1.2) ?_ (stoEq.ok hl.2 h.2)
    have := h.1
    split at this
    · rename_i y hy; exact ⟨y, hy, this⟩
    · exact this.elim
/-- A state is a head's, under these names. -/
structure Is (base : Nat) (st st0 : St) (l : List Nat) : Prop where
  nm : (nmOk base st0.nx l && envLtB st0.nx st0.env && stoLtB st0.nx st0.σ) = true
  env : envEq (nmAt base l) st.env st0.env
  sto : stoEq (nmAt base l) st.σ st0.σ
theorem Is.wk {st st0 : St} {l : List Nat} (h : Is base st st0 l) : Wk base st st0 (nmAt base l) := by
  have h1 := h.nm
  simp only [nmOk, Bool.and_eq_true] at h1
  obtain ⟨⟨⟨⟨⟨a1, a2⟩, a3⟩, a4⟩, a5⟩, a6⟩ := h1
  have a1 := Nat.le_of_ble_eq_true a1
  have a2 := Nat.le_of_ble_eq_true a2
  have hget : ∀ i, base ≤ i → i < st0.nx → ∃ x, l[i - base]? = some x ∧ nmAt base l i = x ∧ base ≤ x := fun i h1 h2 => by
    have hlt : i - base < l.length := by omega
    refine ⟨l[i - base], by simp [hlt], ?_, geAll_get a4 _ (List.getElem_mem hlt)⟩
    rw [nmAt_hi h1, List.getD_eq_getElem?_getD, List.getElem?_eq_getElem hlt]; rfl
  refine ⟨fun i hi => nmAt_lo hi, fun i j hi hj he => ?_, a1, h.env.ok a5, h.sto.ok a6⟩
  rcases Nat.lt_or_ge i base with h1 | h1 <;> rcases Nat.lt_or_ge j base with h2 | h2
  · rw [nmAt_lo h1, nmAt_lo h2] at he; exact he
  · obtain ⟨x, _, hx, hx'⟩ := hget j h2 hj
    rw [nmAt_lo h1, hx] at he; omega
  · obtain ⟨x, _, hx, hx'⟩ := hget i h1 hi
    rw [nmAt_lo h2, hx] at he; omega
  · obtain ⟨x, hx, hx', _⟩ := hget i h1 hi
    obtain ⟨y, hy, hy', _⟩ := hget j h2 hj
    rw [hx', hy'] at he
    subst he
    have := distinct_inj a3 _ _ _ hx hy
    omega
/-- A loop whose head holds names. -/
theorem Sat.lp {x : LCode} {st : St} {Q : Exit → St → Prop} {ι : Type} (inv : ι → St) (pre : ι → Prop) (μ : ι → Nat) (i0 : ι) (l : List Nat) (h0 : pre i0) (hw : Is base st (inv i0) l)
    (round : ∀ i, pre i → wp P N base x (inv i) (lpQ base inv pre μ i Q)) : SatL P N base (.loop x) st Q :=
  ⟨Sat.loop inv pre μ i0 _ h0 hw.wk fun i hi => (Sat.of (round i hi)).mono fun e st h => by
    cases e with
    | normal => exact h.h
    | _ => exact h⟩
theorem again {ι : Type} {inv : ι → St} {pre : ι → Prop} {μ : ι → Nat} {i : ι} {st : St} (j : ι) (l : List Nat) (h : pre j) (hm : μ j < μ i) (hw : Is base st (inv j) l) : Again base inv pre μ i st :=
  ⟨j, _, h, hm, hw.wk⟩
theorem again0 {ι : Type} {inv : ι → List (Nat × V)} {pre : ι → Prop} {μ : ι → Nat} {i : ι} {st : St} (j : ι) (h : pre j) (hm : μ j < μ i) (hw : envIs st.env (inv j)) : Again0 inv pre μ i st :=
  ⟨j, h, hm, hw⟩
theorem Sat.rf {f : Operand} {ps : List Nat} {la lb : LCode} {fid : FuncId} {ids : List Nat} {env : List (Nat × V)} {σ : Store} {nx : Nat} {Q : Exit → St → Prop} (hf : evo env f = .c (.fn fid ids)) (hps : ps.all (fun p => decide (p < N)) = true)
    (h : frNat (nx + 1) fun nx1 => CallS P fid (.c (.yd nx) :: ids.map fun k => .c (.bp k 0)) ((nx, .lp env .ready none (RR P N ps la lb)) :: σ) nx1 fun _ σ' nx' => frNat nx' fun nx' => rangeQ nx env Q σ' nx') : SatL P N base (.rangeFunc f ps la lb) ⟨env, σ, nx⟩ Q := by
  simp only [frNat_eq] at h
  exact ⟨Sat.rangeFunc (st := ⟨env, σ, nx⟩) hf hps h⟩
/-- What a round comes to. -/
def yieldQ (id : Nat) (R : Loop → Prop) (next : V → Store → Nat → Prop) : Exit → St → Prop
  | .normal, st => ∃ env2 s2 j2, get st.σ id = some (.lp env2 s2 j2 R) ∧ frS (set st.σ id (.lp env2 .ready none R)) fun σ => next (.c .tru) σ st.nx
  | .ret, st => ∃ env2 s2 j2, get st.σ id = some (.lp env2 s2 j2 R) ∧ frS (set st.σ id (.lp env2 .done (some .ret) R)) fun σ => next (.c .fls) σ st.nx
  | .exit k, st => ∃ env2 s2 j2, get st.σ id = some (.lp env2 s2 j2 R) ∧ frS (set st.σ id (.lp env2 .done (some (.exit k)) R)) fun σ => next (.c .fls) σ st.nx
  | _, _ => False
def bindK : List Nat → List V → List (Nat × V) → (List (Nat × V) → Prop) → Prop
  | p :: ps, v :: vs, env, k => frV v fun v => bindK ps vs ((p, v) :: env) k
  | _, _, env, k => k env
theorem bindK_eq : ∀ (ps : List Nat) (vs : List V) (env : List (Nat × V)) (k : List (Nat × V) → Prop), bindK ps vs env k = k (bindE ps vs env)
  | [], vs, env, k => by simp [bindK, bindE]
  | p :: ps, [], env, k => by simp [bindK, bindE]
  | p :: ps, v :: vs, env, k => by simp only [bindK, frV_eq, bindK_eq ps vs, bindE]
theorem Ops.yd {id N' : Nat} {dst : Option Nat} {fop : Operand} {xs : List Operand} {g : Option (Nat × Bool)} {rest : List LIns} {env : List (Nat × V)} {σ : Store} {nx : Nat} {K : St → Prop} {env0 : List (Nat × V)} {ps : List Nat} {la lb : LCode} (hf : evo env fop = .c (.yd id)) (hg : guardOf env g = .run)
    (hlp : get σ id = some (.lp env0 .ready none (RR P N' ps la lb))) (hlen : Nat.beq ps.length xs.length = true) (hr : (la.ranges || lb.ranges) = false)
    (h : bindK ps (xs.map (evo env)) env0 fun e => Pw.wp P N' nx la ⟨e, σ, nx⟩ fun e st1 => e = .normal ∧ ∃ env1, get st1.σ id = some (.lp env1 .ready none (RR P N' ps la lb)) ∧
      frS (set st1.σ id (.lp env1 .busy none (RR P N' ps la lb))) fun σ' => frNat st1.nx fun nx1 => Pw.wp P N' nx lb ⟨st1.env, σ', nx1⟩ (yieldQ id (RR P N' ps la lb) fun v σ' nx' => frNat nx' fun nx' => putK dst v env fun env' => wpOps P N base rest env' σ' nx' none K)) (hsa : la.strip = la := by exact rfl) (hsb : lb.strip = lb := by exact rfl) :
    OpsL P N base (⟨dst, .call fop xs, g⟩ :: rest) ⟨env, σ, nx⟩ K := by
  rw [bindK_eq] at h
  refine ⟨?_⟩
  simp only [Bool.or_eq_false_iff] at hr
  refine Ops.yield (i := ⟨dst, .call fop xs, g⟩) (st := ⟨env, σ, nx⟩) hg rfl hf hlp (Nat.eq_of_beq_eq_true hlen) hr.1 hr.2 ((hsa ▸ Sat.of h : Sat P N' nx la _ _).mono fun e st1 ⟨he, env1, h1, h2⟩ => ⟨he, env1, h1, ?_⟩)
  rw [frS_eq, frNat_eq] at h2
  refine (hsb ▸ Sat.of h2 : Sat P N' nx lb _ _).mono fun e st2 h3 => ?_
  cases e with
  | normal =>
    obtain ⟨env2, s2, j2, hg2, h4⟩ := h3
    simp only [frNat_eq, putK_eq, frS_eq] at h4
    exact ⟨env2, s2, j2, hg2, Ops.wp h4⟩
  | ret =>
    obtain ⟨env2, s2, j2, hg2, h4⟩ := h3
    simp only [frNat_eq, putK_eq, frS_eq] at h4
    exact ⟨env2, s2, j2, hg2, Ops.wp h4⟩
  | exit k =>
    obtain ⟨env2, s2, j2, hg2, h4⟩ := h3
    simp only [frNat_eq, putK_eq, frS_eq] at h4
    exact ⟨env2, s2, j2, hg2, Ops.wp h4⟩
  | _ => exact h3.elim
end
end Go.Pw

set_option linter.unusedVariables false
namespace Go.Pw
open Go Go.RowKit
abbrev dI (n : Int) : D := .v (.int .i64 n)
abbrev int (n : Int) : C := .d (.v (.int .i64 n))
abbrev r1 (n : Int) : List D := [dI n]
abbrev r2 (p : Int × Int) : List D := [dI p.1, dI p.2]
abbrev r3 (p : Int × Int × Int) : List D := [dI p.1, dI p.2.1, dI p.2.2]
abbrev slv {α : Type} (s : Nat) (row : α → List D) (d : α) (l : List α) : C := .d (.sl s l.length fun i => row (l.getD i d))
abbrev ints (l : List Int) : C := slv 1 r1 0 l
abbrev prs (l : List (Int × Int)) : C := slv 2 r2 (0, 0) l
abbrev trs (l : List (Int × Int × Int)) : C := slv 3 r3 (0, 0, 0) l
/-- A row that is owned, and holds a list. -/
abbrev rowv {α : Type} (e : TypeId) (s : Nat) (row : α → List D) (d : α) (l : List α) : Ent := .row e s l.length (fun i => row (l.getD i d)) false
theorem VEq.ms {id n m : Nat} (h : n = m) : VEq (.c (.ms id n)) (.c (.ms id m)) := by subst h; exact .refl _
theorem CEq.ms {id n m : Nat} (h : n = m) : CEq (.ms id n) (.ms id m) := by subst h; exact .refl _
theorem CEq.int {k : IntKind} {a b : Int} (h : a = b) : CEq (.d (.v (.int k a))) (.d (.v (.int k b))) := by subst h; exact .refl _
theorem CEq.sl {s n m : Nat} {f g : Nat → List D} (hn : n = m) (h : ∀ i, i < n → f i = g i) : CEq (.d (.sl s n f)) (.d (.sl s m g)) := by subst hn; exact .d _ _ (.sl _ _ _ _ h)
theorem CEq.nil {s : Nat} {g : Nat → List D} : CEq (.d (.v (.slice none 0 0))) (.d (.sl s 0 g)) := .d _ _ (.nil s g)
theorem VEq.nil {s : Nat} {g : Nat → List D} : VEq (.c (.d (.v (.slice none 0 0)))) (.c (.d (.sl s 0 g))) := .c _ _ .nil
/-- The same list. -/
theorem VEq.sll {α : Type} {s : Nat} {row : α → List D} {d : α} {l m : List α} (h : l = m) : VEq (.c (slv s row d l)) (.c (slv s row d m)) := by subst h; exact .refl _
theorem CEq.sll {α : Type} {s : Nat} {row : α → List D} {d : α} {l m : List α} (h : l = m) : CEq (slv s row d l) (slv s row d m) := by subst h; exact .refl _
def CEqs : List C → List C → Prop
  | [], [] => True
  | x :: xs, y :: ys => CEq x y ∧ CEqs xs ys
  | _, _ => False
theorem CEqs.length : ∀ {xs ys : List C}, CEqs xs ys → xs.length = ys.length
  | [], [], _ => rfl
  | x :: xs, y :: ys, h => by simp [CEqs.length h.2]
  | [], _ :: _, h => h.elim
  | _ :: _, [], h => h.elim
theorem CEqs.get : ∀ {xs ys : List C}, CEqs xs ys → ∀ (i : Nat) x y, xs[i]? = some x → ys[i]? = some y → CEq x y
  | [], [], _, i, x, y, h, _ => by simp at h
  | a :: xs, b :: ys, h, i, x, y, hx, hy => by
    cases i with
    | zero => simp at hx hy; subst hx; subst hy; exact h.1
    | succ i => exact CEqs.get h.2 i x y (by simpa using hx) (by simpa using hy)
  | [], _ :: _, h, _, _, _, _, _ => h.elim
  | _ :: _, [], h, _, _, _, _, _ => h.elim
theorem EEq.boxs {xs ys : List C} (h : CEqs xs ys) : EEq (.box xs) (.box ys) := .box xs ys h.length h.get
theorem VEq.aggs {xs ys : List C} (h : CEqs xs ys) : VEq (.agg xs) (.agg ys) := .agg xs ys h.length h.get
theorem EEq.same (x : Ent) : EEq x x := by
  cases x with
  | box xs => exact .box _ _ rfl fun i x y hx hy => by rw [hx] at hy; cases hy; exact .refl _
  | row => exact .row _ _ _ _ _ _ fun _ _ => rfl
  | lp => exact .lp _ _ _ _ _ fun _ => .refl _
  | mp m es => exact .mp m es
theorem EEq.rowl {e : TypeId} {s n m : Nat} {f g : Nat → List D} {fz : Bool} (hn : n = m) (h : ∀ i, i < n → f i = g i) : EEq (.row e s n f fz) (.row e s m g fz) := by subst hn; exact .row _ _ _ _ _ _ h
/-- One element more. -/
theorem row_app {α : Type} {row : α → List D} {d : α} {l : List α} {x : α} {r : List D} (h : r = row x) (i : Nat) (hi : i < l.length + 1) : (if i < l.length then row (l.getD i d) else ([r].getD (i - l.length) [])) = row ((l ++ [x]).getD i d) := by
  subst h
  by_cases hlt : i < l.length
  · rw [if_pos hlt, List.getD_eq_getElem?_getD, List.getD_eq_getElem?_getD, List.getElem?_append_left hlt]
  · have : i = l.length := by omega
    subst this
    simp
theorem EEq.app {α : Type} {e : TypeId} {s : Nat} {row : α → List D} {d : α} {l l' : List α} (x : α) {r : List D} (h : r = row x) (hl : l' = l ++ [x]) : EEq (.row e s (l.length + 1) (fun i => if i < l.length then row (l.getD i d) else ([r].getD (i - l.length) [])) false) (rowv e s row d l') := by
  subst hl
  exact EEq.rowl (by simp) fun i hi => row_app h i hi
theorem EEq.one {α : Type} {e : TypeId} {s : Nat} {row : α → List D} {d : α} {l' : List α} (x : α) {r : List D} (h : r = row x) (hl : l' = [x]) : EEq (.row e s 1 (fun i => [r].getD i []) false) (rowv e s row d l') := by
  subst hl
  subst h
  exact EEq.rowl rfl fun i hi => by
    have : i = 0 := by omega
    subst this; rfl
theorem EEq.app1 {e : TypeId} {l l' : List Int} {a : Int} (hl : l' = l ++ [a]) : EEq (.row e 1 (l.length + 1) (fun i => if i < l.length then r1 (l.getD i 0) else ([[dI a]].getD (i - l.length) [])) false) (rowv e 1 r1 0 l') := EEq.app a rfl hl
theorem EEq.app2 {e : TypeId} {l l' : List (Int × Int)} {a b : Int} (hl : l' = l ++ [(a, b)]) : EEq (.row e 2 (l.length + 1) (fun i => if i < l.length then r2 (l.getD i (0, 0)) else ([[dI a, dI b]].getD (i - l.length) [])) false) (rowv e 2 r2 (0, 0) l') := EEq.app (a, b) rfl hl
theorem EEq.app3 {e : TypeId} {l l' : List (Int × Int × Int)} {a b c : Int} (hl : l' = l ++ [(a, b, c)]) : EEq (.row e 3 (l.length + 1) (fun i => if i < l.length then r3 (l.getD i (0, 0, 0)) else ([[dI a, dI b, dI c]].getD (i - l.length) [])) false) (rowv e 3 r3 (0, 0, 0) l') := EEq.app (a, b, c) rfl hl
theorem CEq.li_1 {a0 : Int} : CEq (.d (.sl 1 [[dI a0]].length fun i => [[dI a0]].getD i [])) (ints [a0]) := CEq.sl rfl (fun i hi => by
  rcases i with _ | i
  · rfl
  exact absurd hi (by simp only [List.length_cons, List.length_nil]; omega))
theorem VEq.li_1 {a0 : Int} : VEq (.c (.d (.sl 1 [[dI a0]].length fun i => [[dI a0]].getD i []))) (.c (ints [a0])) := .c _ _ CEq.li_1
theorem CEq.li_2 {a0 a1 : Int} : CEq (.d (.sl 1 [[dI a0], [dI a1]].length fun i => [[dI a0], [dI a1]].getD i [])) (ints [a0, a1]) := CEq.sl rfl (fun i hi => by
  rcases i with _ | i
  · rfl
  rcases i with _ | i
  · rfl
  exact absurd hi (by simp only [List.length_cons, List.length_nil]; omega))
theorem VEq.li_2 {a0 a1 : Int} : VEq (.c (.d (.sl 1 [[dI a0], [dI a1]].length fun i => [[dI a0], [dI a1]].getD i []))) (.c (ints [a0, a1])) := .c _ _ CEq.li_2
theorem CEq.li_3 {a0 a1 a2 : Int} : CEq (.d (.sl 1 [[dI a0], [dI a1], [dI a2]].length fun i => [[dI a0], [dI a1], [dI a2]].getD i [])) (ints [a0, a1, a2]) := CEq.sl rfl (fun i hi => by
  rcases i with _ | i
  · rfl
  rcases i with _ | i
  · rfl
  rcases i with _ | i
  · rfl
  exact absurd hi (by simp only [List.length_cons, List.length_nil]; omega))
theorem VEq.li_3 {a0 a1 a2 : Int} : VEq (.c (.d (.sl 1 [[dI a0], [dI a1], [dI a2]].length fun i => [[dI a0], [dI a1], [dI a2]].getD i []))) (.c (ints [a0, a1, a2])) := .c _ _ CEq.li_3
theorem CEq.li_4 {a0 a1 a2 a3 : Int} : CEq (.d (.sl 1 [[dI a0], [dI a1], [dI a2], [dI a3]].length fun i => [[dI a0], [dI a1], [dI a2], [dI a3]].getD i [])) (ints [a0, a1, a2, a3]) := CEq.sl rfl (fun i hi => by
  rcases i with _ | i
  · rfl
  rcases i with _ | i
  · rfl
  rcases i with _ | i
  · rfl
  rcases i with _ | i
  · rfl
  exact absurd hi (by simp only [List.length_cons, List.length_nil]; omega))
theorem VEq.li_4 {a0 a1 a2 a3 : Int} : VEq (.c (.d (.sl 1 [[dI a0], [dI a1], [dI a2], [dI a3]].length fun i => [[dI a0], [dI a1], [dI a2], [dI a3]].getD i []))) (.c (ints [a0, a1, a2, a3])) := .c _ _ CEq.li_4
theorem CEq.lp_1 {a0 b0 : Int} : CEq (.d (.sl 2 [[dI a0, dI b0]].length fun i => [[dI a0, dI b0]].getD i [])) (prs [(a0, b0)]) := CEq.sl rfl (fun i hi => by
  rcases i with _ | i
  · rfl
  exact absurd hi (by simp only [List.length_cons, List.length_nil]; omega))
theorem VEq.lp_1 {a0 b0 : Int} : VEq (.c (.d (.sl 2 [[dI a0, dI b0]].length fun i => [[dI a0, dI b0]].getD i []))) (.c (prs [(a0, b0)])) := .c _ _ CEq.lp_1
theorem CEq.lp_2 {a0 b0 a1 b1 : Int} : CEq (.d (.sl 2 [[dI a0, dI b0], [dI a1, dI b1]].length fun i => [[dI a0, dI b0], [dI a1, dI b1]].getD i [])) (prs [(a0, b0), (a1, b1)]) := CEq.sl rfl (fun i hi => by
  rcases i with _ | i
  · rfl
  rcases i with _ | i
  · rfl
  exact absurd hi (by simp only [List.length_cons, List.length_nil]; omega))
theorem VEq.lp_2 {a0 b0 a1 b1 : Int} : VEq (.c (.d (.sl 2 [[dI a0, dI b0], [dI a1, dI b1]].length fun i => [[dI a0, dI b0], [dI a1, dI b1]].getD i []))) (.c (prs [(a0, b0), (a1, b1)])) := .c _ _ CEq.lp_2
theorem CEq.lp_3 {a0 b0 a1 b1 a2 b2 : Int} : CEq (.d (.sl 2 [[dI a0, dI b0], [dI a1, dI b1], [dI a2, dI b2]].length fun i => [[dI a0, dI b0], [dI a1, dI b1], [dI a2, dI b2]].getD i [])) (prs [(a0, b0), (a1, b1), (a2, b2)]) := CEq.sl rfl (fun i hi => by
  rcases i with _ | i
  · rfl
  rcases i with _ | i
  · rfl
  rcases i with _ | i
  · rfl
  exact absurd hi (by simp only [List.length_cons, List.length_nil]; omega))
theorem VEq.lp_3 {a0 b0 a1 b1 a2 b2 : Int} : VEq (.c (.d (.sl 2 [[dI a0, dI b0], [dI a1, dI b1], [dI a2, dI b2]].length fun i => [[dI a0, dI b0], [dI a1, dI b1], [dI a2, dI b2]].getD i []))) (.c (prs [(a0, b0), (a1, b1), (a2, b2)])) := .c _ _ CEq.lp_3
theorem CEq.lp_4 {a0 b0 a1 b1 a2 b2 a3 b3 : Int} : CEq (.d (.sl 2 [[dI a0, dI b0], [dI a1, dI b1], [dI a2, dI b2], [dI a3, dI b3]].length fun i => [[dI a0, dI b0], [dI a1, dI b1], [dI a2, dI b2], [dI a3, dI b3]].getD i [])) (prs [(a0, b0), (a1, b1), (a2, b2), (a3, b3)]) := CEq.sl rfl (fun i hi => by
  rcases i with _ | i
  · rfl
  rcases i with _ | i
  · rfl
  rcases i with _ | i
  · rfl
  rcases i with _ | i
  · rfl
  exact absurd hi (by simp only [List.length_cons, List.length_nil]; omega))
theorem VEq.lp_4 {a0 b0 a1 b1 a2 b2 a3 b3 : Int} : VEq (.c (.d (.sl 2 [[dI a0, dI b0], [dI a1, dI b1], [dI a2, dI b2], [dI a3, dI b3]].length fun i => [[dI a0, dI b0], [dI a1, dI b1], [dI a2, dI b2], [dI a3, dI b3]].getD i []))) (.c (prs [(a0, b0), (a1, b1), (a2, b2), (a3, b3)])) := .c _ _ CEq.lp_4
theorem CEq.lt_1 {a0 b0 c0 : Int} : CEq (.d (.sl 3 [[dI a0, dI b0, dI c0]].length fun i => [[dI a0, dI b0, dI c0]].getD i [])) (trs [(a0, b0, c0)]) := CEq.sl rfl (fun i hi => by
  rcases i with _ | i
  · rfl
  exact absurd hi (by simp only [List.length_cons, List.length_nil]; omega))
theorem VEq.lt_1 {a0 b0 c0 : Int} : VEq (.c (.d (.sl 3 [[dI a0, dI b0, dI c0]].length fun i => [[dI a0, dI b0, dI c0]].getD i []))) (.c (trs [(a0, b0, c0)])) := .c _ _ CEq.lt_1
theorem CEq.lt_2 {a0 b0 c0 a1 b1 c1 : Int} : CEq (.d (.sl 3 [[dI a0, dI b0, dI c0], [dI a1, dI b1, dI c1]].length fun i => [[dI a0, dI b0, dI c0], [dI a1, dI b1, dI c1]].getD i [])) (trs [(a0, b0, c0), (a1, b1, c1)]) := CEq.sl rfl (fun i hi => by
  rcases i with _ | i
  · rfl
  rcases i with _ | i
  · rfl
  exact absurd hi (by simp only [List.length_cons, List.length_nil]; omega))
theorem VEq.lt_2 {a0 b0 c0 a1 b1 c1 : Int} : VEq (.c (.d (.sl 3 [[dI a0, dI b0, dI c0], [dI a1, dI b1, dI c1]].length fun i => [[dI a0, dI b0, dI c0], [dI a1, dI b1, dI c1]].getD i []))) (.c (trs [(a0, b0, c0), (a1, b1, c1)])) := .c _ _ CEq.lt_2
theorem CEq.lt_3 {a0 b0 c0 a1 b1 c1 a2 b2 c2 : Int} : CEq (.d (.sl 3 [[dI a0, dI b0, dI c0], [dI a1, dI b1, dI c1], [dI a2, dI b2, dI c2]].length fun i => [[dI a0, dI b0, dI c0], [dI a1, dI b1, dI c1], [dI a2, dI b2, dI c2]].getD i [])) (trs [(a0, b0, c0), (a1, b1, c1), (a2, b2, c2)]) := CEq.sl rfl (fun i hi => by
  rcases i with _ | i
  · rfl
  rcases i with _ | i
  · rfl
  rcases i with _ | i
  · rfl
  exact absurd hi (by simp only [List.length_cons, List.length_nil]; omega))
theorem VEq.lt_3 {a0 b0 c0 a1 b1 c1 a2 b2 c2 : Int} : VEq (.c (.d (.sl 3 [[dI a0, dI b0, dI c0], [dI a1, dI b1, dI c1], [dI a2, dI b2, dI c2]].length fun i => [[dI a0, dI b0, dI c0], [dI a1, dI b1, dI c1], [dI a2, dI b2, dI c2]].getD i []))) (.c (trs [(a0, b0, c0), (a1, b1, c1), (a2, b2, c2)])) := .c _ _ CEq.lt_3
section
variable {P : Program} {N base : Nat}
/-- These slots alone. -/
def keepK : List Nat → List (Nat × V) → (List (Nat × V) → Prop) → Prop
  | [], _, k => k []
  | t :: ts, env, k => frV (lk env t) fun v => keepK ts env fun e => k ((t, v) :: e)
def keepE (env : List (Nat × V)) : List Nat → List (Nat × V)
  | [] => []
  | t :: ts => (t, lk env t) :: keepE env ts
theorem keepK_eq : ∀ (ts : List Nat) (env : List (Nat × V)) (k : List (Nat × V) → Prop), keepK ts env k = k (keepE env ts)
  | [], env, k => rfl
  | t :: ts, env, k => by simp only [keepK, frV_eq, keepK_eq ts, keepE]
theorem lk_keepE {env : List (Nat × V)} {t : Nat} : ∀ (ts : List Nat), RI (lk env t) (lk (keepE env ts) t)
  | [] => fun _ _ _ _ => .unk _
  | x :: ts => by
    rw [keepE, lk_cons]
    split
    · rename_i h; subst h; exact RI.refl _
    · exact lk_keepE ts
theorem Mv.keep {env : List (Nat × V)} {σ : Store} {nx : Nat} (ts : List Nat) : Mv base ⟨env, σ, nx⟩ ⟨keepE env ts, σ, nx⟩ := Mv.env fun t => lk_keepE ts
theorem Sat.keep {x : LCode} {env : List (Nat × V)} {σ : Store} {nx : Nat} {Q : Exit → St → Prop} (ts : List Nat) (h : keepK ts env fun env' => SatL P N base x ⟨env', σ, nx⟩ Q) : SatL P N base x ⟨env, σ, nx⟩ Q := by
  rw [keepK_eq] at h
  exact ⟨Sat.from (Mv.keep ts) h.h⟩
theorem RetQ.of {nx : Nat} {rl : List RL} {vs vs0 : List V} {σ' : Store} {nx' : Nat} {e : Exit} {env : List (Nat × V)} {σ : Store} {nx1 : Nat} (he : e = .normal ∨ e = .ret) (hres : resAll env σ rl = some vs0) (hl : Nat.beq vs0.length vs.length = true) (h : Mv nx ⟨argEnv 0 vs0, σ, nx1⟩ ⟨argEnv 0 vs, σ', nx'⟩) : RetQ nx rl vs σ' nx' e ⟨env, σ, nx1⟩ :=
  ⟨he, vs0, hres, Nat.eq_of_beq_eq_true hl, h⟩
theorem Mv.plain {nx nx1 nx' : Nat} {env : List (Nat × V)} {σ : Store} {vs : List V} (hle : Nat.ble nx nx' = true) (h : envIs env (argEnv 0 vs)) : Mv nx ⟨env, σ, nx1⟩ ⟨argEnv 0 vs, [], nx'⟩ :=
  Mv.weaken (Wk.plain (Nat.le_of_ble_eq_true hle) h)
/-- A row within an aggregate is closed. -/
def putAt : List C → Nat → C → List C
  | [], _, _ => []
  | _ :: cs, 0, x => x :: cs
  | c :: cs, n + 1, x => c :: putAt cs n x
theorem putAt_get : ∀ (cs : List C) (n i : Nat) (x : C), (putAt cs n x)[i]? = if i = n ∧ n < cs.length then some x else cs[i]?
  | [], n, i, x => by simp [putAt]
  | c :: cs, 0, i, x => by cases i <;> simp [putAt]
  | c :: cs, n + 1, i, x => by cases i <;> simp [putAt, putAt_get cs n]
theorem putAt_length : ∀ (cs : List C) (n : Nat) (x : C), (putAt cs n x).length = cs.length
  | [], _, _ => rfl
  | _ :: _, 0, _ => rfl
  | _ :: cs, n + 1, x => by simp [putAt, putAt_length cs n x]
theorem Mv.freezeA {env : List (Nat × V)} {σ : Store} {nx : Nat} (t j id : Nat) {cs : List C} {n : Nat} {e : TypeId} {s m : Nat} {f : Nat → List D} {fz : Bool} (h : lk env t = .agg cs) (hj : cs[j]? = some (.ms id n)) (hg : get σ id = some (.row e s m f fz)) (hn : n ≤ m) :
    Mv base ⟨env, σ, nx⟩ ⟨(t, .agg (putAt cs j (.d (.sl s n f)))) :: env, set σ id (.row e s m f true), nx⟩ := fun N B0 Γ w a hc => by
  obtain ⟨Γ', b, hb, rfl, h1, h2⟩ := hc.freeze hg
  refine ⟨_, ⟨h1.size, fun t' => ?_, h1.ok, h1.free, h1.le, h1.dfs⟩, h2⟩
  rw [lk_cons]
  split
  · rename_i ht
    subst ht
    have h3 := hc.env t
    have h4 := h1.env t
    simp only at h3 h4
    rw [h] at h3 h4
    generalize a.tmps.getD t undef = u at h3 h4
    cases h3 with
    | agg _ us hl hr =>
      refine .agg _ _ (by rw [hl, putAt_length]) (fun i c u hc' hu => ?_)
      rw [putAt_get] at hc'
      split at hc'
      · rename_i hi
        cases hc'
        obtain ⟨rfl, hi⟩ := hi
        have hr0 := hr i _ u hj hu
        obtain ⟨b', hb', hd⟩ := ms_data hc.ok hg hn hr0
        rw [hb] at hb'; cases hb'
        exact hd _ (fun k hk => .inl hk) (fun hcc => .inr ⟨rfl, hcc⟩)
      · cases h4 with
        | agg _ _ _ hr' => exact hr' i c u hc' hu
  · exact h1.env t'
/-- At a call: the row of slot t is closed. -/
theorem OpsL.frz {ops : List LIns} {K : St → Prop} {env : List (Nat × V)} {σ : Store} {nx : Nat} (t id : Nat) {n : Nat} {e : TypeId} {s m : Nat} {f : Nat → List D} {fz : Bool} (h : lk env t = .c (.ms id n)) (hg : get σ id = some (.row e s m f fz)) (hn : n ≤ m)
    (k : frS (set σ id (.row e s m f true)) fun σ' => OpsL P N base ops ⟨(t, .c (.d (.sl s n f))) :: env, σ', nx⟩ K) : OpsL P N base ops ⟨env, σ, nx⟩ K := by
  rw [frS_eq] at k
  exact ⟨Ops.from (Mv.freeze t id h hg hn) k.h⟩
/-- At the end of a loop: the row of slot t is closed. -/
theorem MvQ.frz {Q : Exit → St → Prop} {x : Exit} {env : List (Nat × V)} {σ : Store} {nx : Nat} (t id : Nat) {n : Nat} {e : TypeId} {s m : Nat} {f : Nat → List D} {fz : Bool} (h : lk env t = .c (.ms id n)) (hg : get σ id = some (.row e s m f fz)) (hn : n ≤ m)
    (k : frS (set σ id (.row e s m f true)) fun σ' => MvQ base Q x ⟨(t, .c (.d (.sl s n f))) :: env, σ', nx⟩) : MvQ base Q x ⟨env, σ, nx⟩ := by
  rw [frS_eq] at k
  exact MvQ.from (Mv.freeze t id h hg hn) k
/-- A nil slice in a box gets a name. -/
theorem Mv.nilB {env : List (Nat × V)} {σ : Store} {nx : Nat} (idb j : Nat) (e : TypeId) (s : Nat) (f : Nat → List D) {cs : List C} (hg : get σ idb = some (.box cs)) (hj : cs[j]? = some (.d (.v (.slice none 0 0)))) :
    Mv base ⟨env, σ, nx⟩ ⟨env, set ((nx, .row e s 0 f false) :: σ) idb (.box (putAt cs j (.ms nx 0))), nx + 1⟩ := fun N B0 Γ w a hc => by
  have hid := hc.free nx (Nat.le_refl _)
  obtain ⟨h1, h2⟩ := name_nil hc.ok hid hc.le e s f
  obtain ⟨b, hb, hok⟩ := hc.ok.ok idb _ hg
  have hne : idb ≠ nx := fun h => by subst h; rw [hid] at hb; cases hb
  have hg' : get ((nx, Ent.row e s 0 f false) :: σ) idb = some (.box cs) := by rw [get_cons_other hne]; exact hg
  have hb' : (Γ.upd nx 0 none).ρ idb = some b := by rw [upd_ρ hne]; exact hb
  have hle := CxLe.upd Γ 0 none hid
  obtain ⟨b2, hb2, hok2⟩ := h1.ok idb _ hg'
  rw [hb'] at hb2; cases hb2
  obtain ⟨hI, xs, t, hh, hl, hr⟩ := hok2
  have h3 := h1.modify (w' := w) (e' := .box (putAt cs j (.ms nx 0))) hg' hb' trivial (Nat.le_refl _) (fun _ _ _ => rfl) ⟨hI, xs, t, hh, by rw [hl, putAt_length], fun i c hc' => by
    rw [putAt_get] at hc'
    split at hc'
    · rename_i hi
      cases hc'
      obtain ⟨rfl, hi⟩ := hi
      obtain ⟨x, hx, hrx⟩ := hr i _ hj
      refine ⟨x, hx, 0, upd_ρ_same, .inl ⟨rfl, upd_κ_same, ?_⟩⟩
      generalize hd : D.v (.slice none 0 0) = d at hrx
      cases (show RepD _ w d x from hrx) <;> first | cases hd
      rfl
    · exact hr i c hc'⟩
  have hext : Ext base Γ w σ (Γ.upd nx 0 none) w (set ((nx, .row e s 0 f false) :: σ) idb (.box (putAt cs j (.ms nx 0)))) :=
    ⟨h2.os, h2.tape, h2.output, h2.size, h2.im, h2.new, h2.ρ, h2.κ, h2.keep, fun k hk => h2.live k (live_set hg' trivial hk)⟩
  refine ⟨_, ⟨hc.size, fun t' => (hc.env t').mono hle (fun _ _ => rfl), h3, fun id hid' => ?_, Nat.le_succ_of_le hc.le, ?_⟩, hext⟩
  · rw [upd_ρ (by have : nx + 1 ≤ id := hid'; omega)]; exact hc.free id (by have : nx + 1 ≤ id := hid'; show nx ≤ id; omega)
  · obtain ⟨Ds, d1, d2, d3⟩ := hc.dfs
    refine ⟨Ds, d1, d2, fun D hD => ?_⟩
    obtain ⟨d4, d5, d6, d7⟩ := d3 D hD
    refine ⟨d4, d5, fun hlv => ?_, d7⟩
    rcases hext.live D hlv with h3 | h3
    · exact d6 h3
    · have := (Array.getElem?_eq_some_iff.1 d7).1; omega
theorem Sat.nilB {x : LCode} {env : List (Nat × V)} {σ : Store} {nx : Nat} {Q : Exit → St → Prop} (idb j : Nat) (e : TypeId) (s : Nat) (f : Nat → List D) {cs : List C} (hg : get σ idb = some (.box cs)) (hj : cs[j]? = some (.d (.v (.slice none 0 0))))
    (h : frS (set ((nx, .row e s 0 f false) :: σ) idb (.box (putAt cs j (.ms nx 0)))) fun σ' => frNat (nx + 1) fun nx' => SatL P N base x ⟨env, σ', nx'⟩ Q) : SatL P N base x ⟨env, σ, nx⟩ Q := by
  rw [frS_eq, frNat_eq] at h
  exact ⟨Sat.from (Mv.nilB idb j e s f hg hj) h.h⟩
/-- A nil slice in a slot gets a name. -/
theorem Sat.nilS {x : LCode} {env : List (Nat × V)} {σ : Store} {nx : Nat} {Q : Exit → St → Prop} (t : Nat) (e : TypeId) (s : Nat) (f : Nat → List D) (h : lk env t = .c (.d (.v (.slice none 0 0))))
    (k : frNat (nx + 1) fun nx' => SatL P N base x ⟨(t, .c (.ms nx 0)) :: env, (nx, .row e s 0 f false) :: σ, nx'⟩ Q) : SatL P N base x ⟨env, σ, nx⟩ Q := by
  rw [frNat_eq] at k
  exact ⟨Sat.from (Mv.nilms t e s f h) k.h⟩
end
end Go.Pw

set_option linter.unusedVariables false
set_option linter.unusedSectionVars false
namespace Go.Pw
open Go Go.RowKit Go.ChangeShapes Go.WideShapes
inductive Sh
  | int (k : IntKind)
  | bool
  | str
  | sl (row : List Sh)
/-- Shapes of a struct's fields, laid one behind the other. -/
def shFields (cells : TypeId → Nat) (sh : TypeId → Option (List Sh)) : Nat → List Field → Option (List Sh)
  | _, [] => some []
  | o, f :: fs => if f.offset = o then (sh f.type).bind fun a => if a.length = cells f.type then (shFields cells sh (o + cells f.type) fs).map fun b => a ++ b else none else none
/-- The shape of a type's cells. -/
def shOf (P : Program) : Nat → TypeId → Option (List Sh)
  | 0, _ => none
  | m + 1, t => match P.underlying t with
    | some (.int k) => some [.int k]
    | some .bool => some [.bool]
    | some .string => some [.str]
    | some (.struct fs) => (shFields P.cellsOf (shOf P m) 0 fs.toList).bind fun l => if l.length = P.cellsOf t then some l else none
    | some (.array n e) => (shOf P m e).bind fun a => if a.length = P.cellsOf e ∧ n * P.cellsOf e = P.cellsOf t then some (List.replicate n a).flatten else none
    | some (.slice e) => (shOf P m e).bind fun a => if a.length = P.cellsOf e ∧ a.length ≠ 0 then some [.sl a] else none
    | _ => none
mutual
def OkD : Sh → D → Prop
  | .int k, d => ∃ n, d = .v (.int k n) ∧ k.has n = true
  | .bool, d => ∃ b, d = .v (.bool b)
  | .str, d => ∃ s : ByteArray, d = .v (.string s) ∧ s.size ≤ maxLen
  | .sl row, d => ∃ n f, d = .sl row.length n f ∧ n ≤ maxLen ∧ ∀ i, i < n → OkDs row (f i)
def OkDs : List Sh → List D → Prop
  | [], [] => True
  | s :: ss, d :: ds => OkD s d ∧ OkDs ss ds
  | _, _ => False
end
theorem OkDs.length : ∀ {ss : List Sh} {ds : List D}, OkDs ss ds → ds.length = ss.length
  | [], [], _ => rfl
  | s :: ss, d :: ds, h => by unfold OkDs at h; simp [OkDs.length h.2]
  | [], _ :: _, h => by unfold OkDs at h; exact h.elim
  | _ :: _, [], h => by unfold OkDs at h; exact h.elim
theorem OkDs.app : ∀ {ss tt : List Sh} {ds es : List D}, OkDs ss ds → OkDs tt es → OkDs (ss ++ tt) (ds ++ es)
  | [], _, [], _, _, h => h
  | s :: ss, tt, d :: ds, es, h, h' => by
    unfold OkDs at h
    show OkDs (s :: (ss ++ tt)) (d :: (ds ++ es))
    unfold OkDs
    exact ⟨h.1, OkDs.app h.2 h'⟩
  | [], _, _ :: _, _, h, _ => by unfold OkDs at h; exact h.elim
  | _ :: _, _, [], _, h, _ => by unfold OkDs at h; exact h.elim
/-- Cells that stand for data. -/
def Reps (I : Nat → Prop) (w : World) (ds : List D) (cs : List Value) : Prop := cs.length = ds.length ∧ ∀ (i : Nat) d u, ds[i]? = some d → cs[i]? = some u → RepD I w d u
theorem Reps.nil {I : Nat → Prop} {w : World} : Reps I w [] [] := ⟨rfl, fun i d u h => by simp at h⟩
theorem Reps.one {I : Nat → Prop} {w : World} {d : D} {u : Value} (h : RepD I w d u) : Reps I w [d] [u] := ⟨rfl, fun i d' u' hd hu => by
  cases i with
  | zero => simp at hd hu; subst hd; subst hu; exact h
  | succ i => simp at hd⟩
theorem Reps.app {I : Nat → Prop} {w : World} {ds es : List D} {cs us : List Value} (h : Reps I w ds cs) (h' : Reps I w es us) : Reps I w (ds ++ es) (cs ++ us) := by
  refine ⟨by simp [h.1, h'.1], fun i d u hd hu => ?_⟩
  rcases Nat.lt_or_ge i ds.length with hi | hi
  · rw [List.getElem?_append_left hi] at hd
    rw [List.getElem?_append_left (by rw [h.1]; exact hi)] at hu
    exact h.2 i d u hd hu
  · rw [List.getElem?_append_right hi] at hd
    rw [List.getElem?_append_right (by rw [h.1]; exact hi), h.1] at hu
    exact h'.2 _ d u hd hu
section
variable {H : Type} {enc : TypeId × Value → H} {P : Program} {w : World} {base : Nat} {spare : Nat → Bool} {held : Bool}
theorem trod_array' {t e : TypeId} {n fuel : Nat} {cs : List Value} {x : DataW H × List MemPlace} (ht : P.underlying t = some (.array n e)) (h : DataW.trod enc P w base spare held fuel t cs = some x) :
    ∃ m, cs.length = P.cellsOf t ∧ ∀ i, i < n → ∃ y, DataW.trod enc P w base spare held m e ((cs.drop (i * P.cellsOf e)).take (P.cellsOf e)) = some y := by
  cases fuel with
  | zero => simp [DataW.trod] at h
  | succ m =>
    unfold DataW.trod at h
    rw [ht] at h
    simp only at h
    split at h
    · rename_i hl
      rw [Option.map_eq_some_iff] at h
      obtain ⟨xs, h1, _⟩ := h
      refine ⟨m, hl, fun i hi => ?_⟩
      have := mapM_some_get h1 i i (by simp [hi])
      have hlen := mapM_some_length h1
      rw [List.getElem?_eq_getElem (by rw [hlen]; simpa using hi)] at this
      exact ⟨_, this⟩
    · cases h
theorem trod_fields {m : Nat} (ih : ∀ (t : TypeId) (sh : List Sh) (fuel : Nat) (cs : List Value) (x : DataW H × List MemPlace), shOf P m t = some sh → DataW.trod enc P w base spare held fuel t cs = some x → ∃ ds, OkDs sh ds ∧ Reps (fun b => b < w.heap.size) w ds cs) {fuel : Nat} :
    ∀ (fs : List Field) (o : Nat) (sh : List Sh) (cs : List Value), shFields P.cellsOf (shOf P m) o fs = some sh → (∀ f ∈ fs, ∃ y, DataW.trod enc P w base spare held fuel f.type ((cs.drop f.offset).take (P.cellsOf f.type)) = some y) →
      o + sh.length = cs.length → ∃ ds, OkDs sh ds ∧ Reps (fun b => b < w.heap.size) w ds (cs.drop o)
  | [], o, sh, cs, h, _, hl => by
    simp only [shFields, Option.some.injEq] at h
    subst h
    refine ⟨[], by unfold OkDs; trivial, ?_⟩
    rw [List.drop_of_length_le (by simp at hl; omega)]
    exact Reps.nil
  | f :: fs, o, sh, cs, h, hf, hl => by
    simp only [shFields] at h
    split at h
    · rename_i ho
      rw [Option.bind_eq_some_iff] at h
      obtain ⟨a, ha, h⟩ := h
      split at h
      · rename_i hal
        rw [Option.map_eq_some_iff] at h
        obtain ⟨b, hb, rfl⟩ := h
        obtain ⟨y, hy⟩ := hf f (by simp)
        rw [ho] at hy
        obtain ⟨ds, h1, h2⟩ := ih f.type a fuel _ y ha hy
        rw [List.length_append] at hl
        obtain ⟨es, h3, h4⟩ := trod_fields ih fs (o + P.cellsOf f.type) b cs hb (fun g hg => hf g (by simp [hg])) (by omega)
        refine ⟨ds ++ es, h1.app h3, ?_⟩
        have := h2.app h4
        rwa [← List.drop_drop, List.take_append_drop] at this
      · cases h
    · cases h
theorem reps_array {I : Nat → Prop} {c : Nat} {sh : List Sh} : ∀ (n : Nat) (cs : List Value), cs.length = n * c → (∀ i, i < n → ∃ ds, OkDs sh ds ∧ Reps I w ds ((cs.drop (i * c)).take c)) → ∃ ds, OkDs (List.replicate n sh).flatten ds ∧ Reps I w ds cs
  | 0, cs, hl, _ => by
    have : cs = [] := List.length_eq_zero_iff.1 (by simpa using hl)
    subst this
    exact ⟨[], by simp only [List.replicate, List.flatten]; unfold OkDs; trivial, Reps.nil⟩
  | n + 1, cs, hl, h => by
    obtain ⟨ds, h1, h2⟩ := h 0 (Nat.succ_pos _)
    obtain ⟨es, h3, h4⟩ := reps_array (c := c) (sh := sh) n (cs.drop c) (by rw [List.length_drop, hl, Nat.succ_mul]; omega) (fun i hi => by
      obtain ⟨es, h3, h4⟩ := h (i + 1) (by omega)
      refine ⟨es, h3, ?_⟩
      rwa [List.drop_drop, show c + i * c = (i + 1) * c by rw [Nat.succ_mul]; omega])
    refine ⟨ds ++ es, ?_, ?_⟩
    · rw [List.replicate_succ, List.flatten_cons]; exact h1.app h3
    · simp only [Nat.zero_mul, List.drop_zero] at h2
      have := h2.app h4
      rwa [List.take_append_drop] at this
theorem has_of_wf {k : IntKind} {n : Int} (h : (Lit.int k n).wf = true) : k.has n = true := by
  simpa [Lit.wf, IntKind.has] using h
theorem trod_reps : ∀ (m : Nat) (t : TypeId) (sh : List Sh) (fuel : Nat) (cs : List Value) (x : DataW H × List MemPlace), shOf P m t = some sh → DataW.trod enc P w base spare held fuel t cs = some x →
    ∃ ds, OkDs sh ds ∧ Reps (fun b => b < w.heap.size) w ds cs := by
  intro m
  induction m with
  | zero => intro t sh fuel cs x h; simp [shOf] at h
  | succ m ih =>
    intro t sh fuel cs x h hx
    unfold shOf at h
    split at h
    · rename_i k hu
      cases h
      obtain ⟨n, rfl, _, hw⟩ := DataW.trod_int hu hx
      exact ⟨[.v (.int k n)], by unfold OkDs; exact ⟨by unfold OkD; exact ⟨n, rfl, has_of_wf hw⟩, by unfold OkDs; trivial⟩, Reps.one (.v _ rfl)⟩
    · rename_i hu
      cases h
      obtain ⟨b, rfl, _⟩ := DataW.trod_bool hu hx
      exact ⟨[.v (.bool b)], by unfold OkDs; exact ⟨by unfold OkD; exact ⟨b, rfl⟩, by unfold OkDs; trivial⟩, Reps.one (.v _ rfl)⟩
    · rename_i hu
      cases h
      obtain ⟨s, rfl, _, hs⟩ := DataW.trod_string hu hx
      exact ⟨[.v (.string s)], by unfold OkDs; exact ⟨by unfold OkD; exact ⟨s, rfl, hs⟩, by unfold OkDs; trivial⟩, Reps.one (.v _ rfl)⟩
    · rename_i fs hu
      rw [Option.bind_eq_some_iff] at h
      obtain ⟨l, hl, h⟩ := h
      split at h
      · rename_i hc
        cases h
        obtain ⟨xs, n, rfl, _, hlen, hxl, hfs⟩ := DataW.trod_struct hu hx
        obtain ⟨ds, h1, h2⟩ := trod_fields (fuel := n) ih fs.toList 0 sh cs hl (fun f hf => by
          obtain ⟨i, hi, rfl⟩ := List.getElem_of_mem hf
          have h3 := hfs i fs.toList[i] (by simp)
          rw [List.getElem?_eq_getElem (by rw [hxl]; simpa using hi)] at h3
          exact ⟨_, h3⟩) (by omega)
        exact ⟨ds, h1, by simpa using h2⟩
      · cases h
    · rename_i n e hu
      rw [Option.bind_eq_some_iff] at h
      obtain ⟨a, ha, h⟩ := h
      split at h
      · rename_i hc
        cases h
        obtain ⟨m', hlen, hy⟩ := trod_array' hu hx
        exact reps_array n cs (by rw [hlen, hc.2]) (fun i hi => by
          obtain ⟨y, hy⟩ := hy i hi
          exact ih e a m' _ y ha hy)
      · cases h
    · rename_i e hu
      rw [Option.bind_eq_some_iff] at h
      obtain ⟨a, ha, h⟩ := h
      split at h
      · rename_i hca
        obtain ⟨hc, hca⟩ := hca
        cases h
        rcases Deep.open_slice hu hx with ⟨rfl, _⟩ | ⟨ad, len, cap, mm, n, D0, Pl, rfl, _, hlc, hcm, hmm, _, hel⟩
        · exact ⟨[.sl a.length 0 fun _ => []], by unfold OkDs; exact ⟨by unfold OkD; exact ⟨0, _, rfl, Nat.zero_le _, fun i hi => absurd hi (Nat.not_lt_zero _)⟩, by unfold OkDs; trivial⟩, Reps.one (.slE _ _ _ _)⟩
        · have hle : len ≤ mm := by rw [hmm]; split <;> omega
          have hall : ∀ i, i < len → ∃ p : List D × List Value, OkDs a p.1 ∧ Reps (fun b => b < w.heap.size) w p.1 p.2 ∧ w.cells? base (ad.add (i * P.cellsOf e)) (P.cellsOf e) = some p.2 := fun i hi => by
            obtain ⟨cs', h1, h2⟩ := hel i (by omega)
            obtain ⟨ds, h3, h4⟩ := ih e a n cs' _ ha h2
            exact ⟨(ds, cs'), h3, h4, h1⟩
          obtain ⟨f, hf⟩ := Deep.choose_lt hall
          refine ⟨[.sl a.length len fun i => (f i).1], by unfold OkDs; exact ⟨by unfold OkD; exact ⟨len, _, rfl, by omega, fun i hi => (hf i hi).1⟩, by unfold OkDs; trivial⟩, Reps.one ?_⟩
          by_cases h0 : len = 0
          · subst h0; exact .slE _ _ _ _
          refine .sl _ _ _ _ _ (fun i j => ((f i).2[j]?).getD (.bool false)) hlc ?_ (fun i hi => (hf i hi).1.length) (fun i j d hi hd => ?_) (fun i j d hi hd => ?_)
          · obtain ⟨_, h2, h3⟩ := hf 0 (by omega)
            have := World.cells?_block h3 (by omega)
            unfold Addr.add at this
            simpa using this
          · obtain ⟨h1, h2, h3⟩ := hf i hi
            obtain ⟨_, h4, h5⟩ := World.cells?_some h3
            have hj : j < (f i).1.length := (List.getElem?_eq_some_iff.1 hd).1
            rw [h2.1.symm, h4] at hj
            have h6 := h5 j hj
            rw [List.getElem?_eq_getElem (by omega)] at h6
            rw [Deep.add_add] at h6
            rw [hc, h6, List.getElem?_eq_getElem (by omega)]
            rfl
          · obtain ⟨h1, h2, h3⟩ := hf i hi
            have hj : j < (f i).1.length := (List.getElem?_eq_some_iff.1 hd).1
            rw [← h2.1] at hj
            rw [List.getElem?_eq_getElem hj]
            exact h2.2 j d _ hd (List.getElem?_eq_getElem hj)
      · cases h
    · cases h
/-- Arguments of given shapes: whether it is a struct or an array, and its cells. -/
def shAll (P : Program) : List TypeId → Option (List (Bool × List Sh))
  | [] => some []
  | t :: ts => (shOf P 20 t).bind fun s => if P.readableRec t = true ∧ t < P.types.size then (shAll P ts).map fun r => ((match P.underlying t with | some (.struct _) | some (.array _ _) => true | _ => false), s) :: r else none
def ArgOk : List (Bool × List Sh) → List V → Prop
  | [], [] => True
  | (b, sh) :: r, v :: vs => (∃ ds, OkDs sh ds ∧ (b = true ∧ v = .agg (ds.map .d) ∨ b = false ∧ ∃ d, ds = [d] ∧ v = .c (.d d))) ∧ ArgOk r vs
  | _, _ => False
theorem okWide_agg {t : TypeId} {v : Value} (h : Value.okWide P w .any base t v) (hb : (match P.underlying t with | some (.struct _) | some (.array _ _) => true | _ => false) = true) : ∃ cs, v = .agg cs := by
  unfold Value.okWide at h
  split at hb
  · rename_i fs hu; rw [hu] at h; exact ⟨_, h.choose_spec.1⟩
  · rename_i n e hu; rw [hu] at h; exact ⟨_, h.choose_spec.1⟩
  · cases hb
theorem below_all (hl : laidOutB P = true) {W W' : World} (hb : Below W.heap.size W W') : ∀ {ts : List TypeId} {vs : List Value} {ds : List (DataW H)} {p : List MemPlace} {shs : List (Bool × List Sh)}, shAll P ts = some shs →
    DataW.TrodAll enc P W 0 (fun _ => true) true ts vs ds p → DataW.TrodAll enc P W' 0 (fun b => decide (b < W.heap.size)) true ts vs ds p
  | [], _, _, _, _, _, h => by
    obtain ⟨rfl, rfl, rfl⟩ := trodAll_nil h
    exact trodAll_mk0
  | t :: ts, _, _, _, _, hs, h => by
    have hlt := h.lt
    obtain ⟨v, vs1, d, ds1, a, b, rfl, rfl, rfl, h1, h2⟩ := trodAll_cons h
    simp only [shAll, Option.bind_eq_some_iff] at hs
    obtain ⟨s, _, hs⟩ := hs
    split at hs
    · rename_i hr
      rw [Option.map_eq_some_iff] at hs
      obtain ⟨r, hr', _⟩ := hs
      exact ⟨a, b, Below.trod hl hr.1 hr.2 h1 hb (fun x hx => hlt x (by simp [hx])), below_all hl hb hr' h2, rfl⟩
    · cases hs
theorem args_rep {Γ : Cx} (hΓ : Γ.I = fun b => b < w.heap.size) : ∀ {ts : List TypeId} {vs : List Value} {ds : List (DataW H)} {p : List MemPlace} {shs : List (Bool × List Sh)}, shAll P ts = some shs →
    DataW.TrodAll enc P w 0 (fun _ => true) true ts vs ds p → (∀ (j : Nat) t v, ts[j]? = some t → vs[j]? = some v → Value.okWide P w .any base t v) →
    ∃ args : List V, ArgOk shs args ∧ vs.length = args.length ∧ ∀ (i : Nat) v u, args[i]? = some v → vs[i]? = some u → RepV Γ w v u
  | [], _, _, _, _, hs, h, _ => by
    obtain ⟨rfl, rfl, rfl⟩ := trodAll_nil h
    simp only [shAll, Option.some.injEq] at hs
    subst hs
    exact ⟨[], trivial, rfl, fun i v u h => by simp at h⟩
  | t :: ts, _, _, _, _, hs, h, hv => by
    obtain ⟨v, vs1, d, ds1, a, b, rfl, rfl, rfl, h1, h2⟩ := trodAll_cons h
    simp only [shAll, Option.bind_eq_some_iff] at hs
    obtain ⟨s, hs1, hs⟩ := hs
    split at hs
    · rename_i hr
      rw [Option.map_eq_some_iff] at hs
      obtain ⟨r, hr', rfl⟩ := hs
      obtain ⟨args, q1, q2, q3⟩ := args_rep hΓ hr' h2 (fun j t' v' hj hj' => hv (j + 1) t' v' (by simpa using hj) (by simpa using hj'))
      obtain ⟨fuel, hx⟩ := h1
      obtain ⟨es, e1, e2⟩ := trod_reps 20 t s fuel _ _ hs1 hx
      have hok := hv 0 t v rfl rfl
      have hcons : ∀ x : V, RepV Γ w x v → ∀ (i : Nat) (y : V) (u : Value), (x :: args)[i]? = some y → (v :: vs1)[i]? = some u → RepV Γ w y u := fun x hx i y u hy hu => by
        cases i with
        | zero => simp at hy hu; subst hy; subst hu; exact hx
        | succ i => exact q3 i y u (by simpa using hy) (by simpa using hu)
      cases hb : (match P.underlying t with | some (.struct _) | some (.array _ _) => true | _ => false) with
      | true =>
        obtain ⟨cs, rfl⟩ := okWide_agg hok hb
        refine ⟨.agg (es.map .d) :: args, ⟨⟨es, e1, .inl ⟨rfl, rfl⟩⟩, q1⟩, by simp [q2], hcons _ ?_⟩
        have e3 : cs.toList.length = es.length := e2.1
        refine .agg _ _ (by simpa using e3) (fun i c u hc hu => ?_)
        simp only [List.getElem?_map, Option.map_eq_some_iff] at hc
        obtain ⟨dd, hd, rfl⟩ := hc
        show RepD Γ.I w dd u
        rw [hΓ]
        exact e2.2 i dd u hd (by show cs.toList[i]? = some u; simpa using hu)
      | false =>
        have hone : v.cells.toList = [v] ∨ ∃ cs, v = .agg cs := by
          cases v <;> first | exact .inl rfl | exact .inr ⟨_, rfl⟩
        have hcell : Cell.okWide P w .any base t v := by
          unfold Value.okWide at hok
          split at hok
          · rename_i hu; rw [hu] at hb; cases hb
          · rename_i hu; rw [hu] at hb; cases hb
          · exact hok
        have hsl : s.length = 1 := by
          unfold shOf at hs1
          split at hs1
          · cases hs1; rfl
          · cases hs1; rfl
          · cases hs1; rfl
          · rename_i hu; rw [hu] at hb; cases hb
          · rename_i hu; rw [hu] at hb; cases hb
          · rw [Option.bind_eq_some_iff] at hs1
            obtain ⟨a, _, hs1⟩ := hs1
            split at hs1
            · cases hs1; rfl
            · cases hs1
          · cases hs1
        obtain ⟨dd, rfl⟩ : ∃ dd, es = [dd] := by
          have := e1.length
          rw [hsl] at this
          exact List.length_eq_one_iff.1 this
        refine ⟨.c (.d dd) :: args, ⟨⟨[dd], e1, .inr ⟨rfl, dd, rfl, rfl⟩⟩, q1⟩, by simp [q2], hcons _ ?_⟩
        have hvc : v.cells.toList = [v] := by
          rcases hone with h | ⟨cs, rfl⟩
          · exact h
          · exfalso
            unfold shOf at hs1
            split at hs1 <;> rename_i hu <;> first | (simp [Cell.okWide, Cell.ok, hu] at hcell; done) | (rw [hu] at hb; cases hb) | cases hs1
        refine .c _ _ ?_
        show RepD Γ.I w dd v
        rw [hΓ]
        exact e2.2 0 dd v rfl (by rw [hvc]; rfl)
    · cases hs
theorem storeOk_nil {Γ : Cx} (h : ∀ k, Γ.I k → k < w.heap.size) (hl : LayOk Γ.I w) : StoreOk Γ w [] :=
  ⟨h, fun id e hg => by simp [get] at hg, fun i j k hi => by
    rcases hi with ⟨_, h⟩ | ⟨_, _, _, _, h, _⟩ | ⟨_, _, _, _, h⟩ | ⟨_, _, h⟩ <;> simp [get] at h, hl⟩
theorem not_live_nil {Γ : Cx} {k : Nat} : ¬ Live Γ [] k := fun ⟨_, hi, _⟩ => by
  rcases hi with ⟨_, h⟩ | ⟨_, _, _, _, h, _⟩ | ⟨_, _, _, _, h⟩ | ⟨_, _, h⟩ <;> simp [get] at h
/-- A law from its contract. -/
theorem law_calls {f : FuncId} {F : Func} {s : ChangeSpec} {shs : List (Bool × List Sh)} {tb : TypeId} (hl : laidOutB P = true) (hs : shAll P F.params.toList = some shs) (hv : s.vars = []) (hfn : ∀ ds : List (DataW H), ds.length = F.params.size → s.fn H ds = { results := [.lit (.bool true)], args := ds })
    (hr : F.resultTypes = #[tb]) (htb : P.underlying tb = some .bool) (hp : ∀ args, ArgOk shs args → PFD P f args (vbl true)) (W : World) (base : Nat) (args : Array Value) (ds gs : List (DataW H)) (before : List MemPlace)
    (hlw : LaidW W) (hval : ∀ (j : Nat) t v, F.params[j]? = some t → args[j]? = some v → Value.okWide P W .any base t v) (hW : DataW.Whole enc P F.params.toList s.vars false W args.toList ds gs before) :
    Calls P f args W fun e W' => ∃ v, e = .returned v ∧ s.post enc P F false true false false W args v W' := by
  have hW' := hW
  obtain ⟨p, q, hA, hV, rfl, hfz, hnd⟩ := hW
  rw [hv] at hV
  obtain ⟨rfl, rfl⟩ := trodVars_none hV
  let Γ : Cx := ⟨fun b => b < W.heap.size, fun _ => none, fun _ => none⟩
  obtain ⟨avs, h1, h2, h3⟩ := args_rep (Γ := Γ) rfl hs hA (fun j t v hj hj' => hval j t v (by simpa using hj) (by simpa using hj'))
  refine ((hp avs h1).h.2.2 Γ W args (storeOk_nil (fun k hk => hk) ⟨W, hlw, fun k hk => ⟨hk, rfl⟩⟩) (fun _ _ _ => rfl) ⟨by simpa using h2, fun i v u hv hu => h3 i v u hv (by simpa using hu)⟩).mono fun e W' hq => ?_
  obtain ⟨u, Γ', rfl, hu, _, _, _, hE⟩ := hq
  have hu : u = .bool true := by
    cases hu with
    | c _ _ h => cases (show RepD Γ'.I W' (.v (.bool true)) u from h); rfl
  subst hu
  have hb : Below W.heap.size W W' := ⟨hE.os, hE.tape, hE.output, hE.size, fun k hk => hE.keep k hk not_live_nil⟩
  have hlen : ds.length = F.params.size := by
    have : ∀ {ts : List TypeId} {vs : List Value} {ds : List (DataW H)} {p : List MemPlace}, DataW.TrodAll enc P W 0 (fun _ => true) true ts vs ds p → ds.length = ts.length := by
      intro ts
      induction ts with
      | nil => intro vs ds p h; obtain ⟨rfl, rfl, rfl⟩ := trodAll_nil h; rfl
      | cons t ts ih =>
        intro vs ds p h
        obtain ⟨v, vs1, d, ds1, a, b, rfl, rfl, rfl, h1, h2⟩ := trodAll_cons h
        simp [ih h2]
    simpa using this hA
  refine ⟨_, rfl, ds, [], p ++ [], [], p, [], hW', ?_, ?_, ?_, World.keptBut_mono (fun x hx => ⟨hx, .inr (.inl (by simpa using hx))⟩) (hb.frame _), fun h => by cases h⟩
  · rw [List.append_nil, hfn ds hlen, hr]
    exact trodAll_mk1 (shut_bool htb true)
  · rw [List.append_nil, hfn ds hlen]
    exact below_all hl hb hs hA
  · rw [List.append_nil, hfn ds hlen, hv]
    exact rfl
end
end Go.Pw

set_option linter.unusedVariables false
namespace Go.Pw
open Go Go.RowKit
theorem PFD.ri {P : Program} {f : FuncId} {args args' : List V} {v : V} (h : PFD P f args' v) (hr : RIs args args') : PFD P f args v :=
  ⟨h.h.1, h.h.2.1, fun Γ w us h1 h2 h3 => h.h.2.2 Γ w us h1 h2 (hr.rep h3)⟩
theorem okDs_cons {s : Sh} {ss : List Sh} {ds : List D} (h : OkDs (s :: ss) ds) : ∃ d es, ds = d :: es ∧ OkD s d ∧ OkDs ss es := by
  cases ds with
  | nil => unfold OkDs at h; exact h.elim
  | cons d es => unfold OkDs at h; exact ⟨d, es, rfl, h.1, h.2⟩
theorem okDs_nil {ds : List D} (h : OkDs [] ds) : ds = [] := by
  cases ds with
  | nil => rfl
  | cons d es => unfold OkDs at h; exact h.elim
theorem okD_int {k : IntKind} {d : D} (h : OkD (.int k) d) : ∃ n, d = .v (.int k n) ∧ k.has n = true := by unfold OkD at h; exact h
theorem okD_sl {row : List Sh} {d : D} (h : OkD (.sl row) d) : ∃ n f, d = .sl row.length n f ∧ n ≤ maxLen ∧ ∀ i, i < n → OkDs row (f i) := by unfold OkD at h; exact h
/-- A slice, as a list of what its rows are. -/
theorem okD_list {row : List Sh} {α : Type} {r : α → List D} {Q : α → Prop} (a0 : α) (hr : ∀ ds, OkDs row ds → ∃ a, ds = r a ∧ Q a) {d : D} (h : OkD (.sl row) d) :
    ∃ l : List α, CEq (.d d) (slv row.length r a0 l) ∧ l.length ≤ maxLen ∧ ∀ a ∈ l, Q a := by
  obtain ⟨n, f, rfl, hn, hf⟩ := okD_sl h
  have : ∀ i, ∃ a, i < n → f i = r a ∧ Q a := fun i => by
    by_cases hi : i < n
    · obtain ⟨a, ha⟩ := hr _ (hf i hi); exact ⟨a, fun _ => ha⟩
    · exact ⟨a0, fun h => absurd h hi⟩
  refine ⟨(List.range n).map fun i => Classical.choose (this i), .sl (by simp) fun i hi => ?_, by simpa using hn, fun a ha => ?_⟩
  · have h1 := (Classical.choose_spec (this i) hi).1
    rw [h1, List.getD_eq_getElem?_getD]
    simp [hi]
  · obtain ⟨i, hi, rfl⟩ := List.mem_map.1 ha
    exact (Classical.choose_spec (this i) (by simpa using hi)).2
abbrev i64 (n : Int) : Prop := IntKind.i64.has n = true
theorem row1 {ds : List D} (h : OkDs [.int .i64] ds) : ∃ a : Int, ds = r1 a ∧ i64 a := by
  obtain ⟨d, es, rfl, h1, h2⟩ := okDs_cons h
  obtain ⟨n, rfl, hn⟩ := okD_int h1
  rw [okDs_nil h2]
  exact ⟨n, rfl, hn⟩
theorem row2 {ds : List D} (h : OkDs [.int .i64, .int .i64] ds) : ∃ a : Int × Int, ds = r2 a ∧ i64 a.1 ∧ i64 a.2 := by
  obtain ⟨d, es, rfl, h1, h2⟩ := okDs_cons h
  obtain ⟨e, fs, rfl, h3, h4⟩ := okDs_cons h2
  obtain ⟨n, rfl, hn⟩ := okD_int h1
  obtain ⟨m, rfl, hm⟩ := okD_int h3
  rw [okDs_nil h4]
  exact ⟨(n, m), rfl, hn, hm⟩
theorem row3 {ds : List D} (h : OkDs [.int .i64, .int .i64, .int .i64] ds) : ∃ a : Int × Int × Int, ds = r3 a ∧ i64 a.1 ∧ i64 a.2.1 ∧ i64 a.2.2 := by
  obtain ⟨d, es, rfl, h1, h2⟩ := okDs_cons h
  obtain ⟨e, fs, rfl, h3, h4⟩ := okDs_cons h2
  obtain ⟨g, gs, rfl, h5, h6⟩ := okDs_cons h4
  obtain ⟨n, rfl, hn⟩ := okD_int h1
  obtain ⟨m, rfl, hm⟩ := okD_int h3
  obtain ⟨o, rfl, ho⟩ := okD_int h5
  rw [okDs_nil h6]
  exact ⟨(n, m, o), rfl, hn, hm, ho⟩
/-- What an argument of a shape is. -/
abbrev Arg (b : Bool) (sh : List Sh) (v : V) : Prop := ∃ ds, OkDs sh ds ∧ (b = true ∧ v = .agg (ds.map .d) ∨ b = false ∧ ∃ d, ds = [d] ∧ v = .c (.d d))
theorem arg_c {s : Sh} {v : V} (h : Arg false [s] v) : ∃ d, v = .c (.d d) ∧ OkD s d := by
  obtain ⟨ds, h1, ⟨h2, _⟩ | ⟨_, d, rfl, rfl⟩⟩ := h
  · cases h2
  · obtain ⟨d', es, h3, h4, h5⟩ := okDs_cons h1
    cases h3
    exact ⟨d, rfl, h4⟩
theorem arg_agg {sh : List Sh} {v : V} (h : Arg true sh v) : ∃ ds, v = .agg (ds.map .d) ∧ OkDs sh ds := by
  obtain ⟨ds, h1, ⟨_, rfl⟩ | ⟨h2, _⟩⟩ := h
  · exact ⟨ds, rfl, h1⟩
  · cases h2
theorem arg_ints {v : V} (h : Arg false [.sl [.int .i64]] v) : ∃ l : List Int, RI v (.c (ints l)) ∧ l.length ≤ maxLen ∧ ∀ a ∈ l, i64 a := by
  obtain ⟨d, rfl, h1⟩ := arg_c h
  obtain ⟨l, h2, h3⟩ := okD_list (0 : Int) (fun ds => row1) h1
  exact ⟨l, VEq.ri (.c _ _ h2), h3⟩
theorem arg_prs {v : V} (h : Arg false [.sl [.int .i64, .int .i64]] v) : ∃ l : List (Int × Int), RI v (.c (prs l)) ∧ l.length ≤ maxLen ∧ ∀ a ∈ l, i64 a.1 ∧ i64 a.2 := by
  obtain ⟨d, rfl, h1⟩ := arg_c h
  obtain ⟨l, h2, h3⟩ := okD_list ((0, 0) : Int × Int) (fun ds => row2) h1
  exact ⟨l, VEq.ri (.c _ _ h2), h3⟩
/-- A struct of numbers and a slice at its end. -/
theorem arg_line {v : V} (h : Arg true [.int .i64, .int .i64, .sl [.int .i64, .int .i64, .int .i64]] v) : ∃ (x z : Int) (l : List (Int × Int × Int)), RI v (.agg [int x, int z, trs l]) ∧ i64 x ∧ i64 z ∧ l.length ≤ maxLen ∧ ∀ a ∈ l, i64 a.1 ∧ i64 a.2.1 ∧ i64 a.2.2 := by
  obtain ⟨ds, rfl, h1⟩ := arg_agg h
  obtain ⟨d, es, rfl, h2, h3⟩ := okDs_cons h1
  obtain ⟨e, fs, rfl, h4, h5⟩ := okDs_cons h3
  obtain ⟨g, gs, rfl, h6, h7⟩ := okDs_cons h5
  obtain ⟨n, rfl, hn⟩ := okD_int h2
  obtain ⟨m, rfl, hm⟩ := okD_int h4
  obtain ⟨l, h8, h9⟩ := okD_list ((0, 0, 0) : Int × Int × Int) (fun ds => row3) h6
  rw [okDs_nil h7]
  refine ⟨n, m, l, VEq.ri (.agg _ _ rfl fun i x y hx hy => ?_), hn, hm, h9⟩
  match i with
  | 0 => simp at hx hy; subst hx; subst hy; exact .refl _
  | 1 => simp at hx hy; subst hx; subst hy; exact .refl _
  | 2 => simp at hx hy; subst hx; subst hy; exact h8
  | i + 3 => simp at hx
end Go.Pw

namespace Go.Pw
theorem Fork.yes {b : Bool} {p q : Prop} (hb : b = true) (hp : p) : Fork b p q := ⟨fun _ => hp, fun h => absurd (hb.symm.trans h) (by decide)⟩
theorem Fork.no {b : Bool} {p q : Prop} (hb : b = false) (hq : q) : Fork b p q := ⟨fun h => absurd (hb.symm.trans h) (by decide), fun _ => hq⟩
theorem nd_t {x : Prop} [Decidable x] (h : ¬ x) : (!decide x) = true := by rw [decide_eq_false h]; rfl
theorem nd_f {x : Prop} [Decidable x] (h : x) : (!decide x) = false := by rw [decide_eq_true h]; rfl
end Go.Pw

set_option linter.unusedVariables false
namespace Go.Pw
open Go Go.RowKit
theorem ob {p : Prop} (h : p := by first | trivial | omega | ((try simp only [R64, E53, true_and, and_true, Int.toNat_natCast, List.length_cons, List.length_nil]); omega)) : p := h
theorem tt1 {b : Bool} (h : b = true := by first | exact rfl | (refine decide_eq_true ?_; omega) | (refine nd_t ?_; omega) | (simp only [decide_true, Bool.and_self, Bool.not_false] <;> fail)) : b = true := h
theorem ff1 {b : Bool} (h : b = false := by first | exact rfl | (refine decide_eq_false ?_; omega) | (refine nd_f ?_; omega) | (simp only [decide_true, Bool.and_self, Bool.not_true] <;> fail)) : b = false := h
theorem Owe.o {p q : Prop} (r : q) (l : p := by exact ob) : Owe p q := ⟨l, r⟩
theorem Owe.same {p q : Prop} (h : Owe p q) : Owe p q := h
theorem fkD {x p q : Prop} [h : Decidable x] (h1 : x → p) (h2 : ¬ x → q) : Fork (decide x) p q := Fork.dec h1 h2
theorem fkN {x p q : Prop} [h : Decidable x] (h1 : ¬ x → p) (h2 : x → q) : Fork (!decide x) p q := Fork.ndec h1 h2
theorem fkM {b : Bool} {p q : Prop} (h1 : b = true → p) (h2 : b = false → q) : Fork b p q := ⟨h1, h2⟩
theorem fkY {b : Bool} {p q : Prop} (hp : p) (hb : b = true := by exact tt1) : Fork b p q := Fork.yes hb hp
theorem fkF {b : Bool} {p q : Prop} (hq : q) (hb : b = false := by exact ff1) : Fork b p q := Fork.no hb hq
inductive QI where
  | v (x y : V)
  | c (x y : C)
  | e (x y : Ent)
  | vs (xs ys : List V)
  | cs (xs ys : List C)
  | en (env e0 : List (Nat × V))
  | eq (π : Nat → Nat) (env e0 : List (Nat × V))
  | st (π : Nat → Nat) (σ σ0 : Store)
def cloCB : C → Bool
  | .d _ | .tru | .fls | .rp _ | .z | .fn _ [] | .fl _ | .cx _ _ | .cl _ _ _ | .fnR _ _ | .fnB _ _ => true
  | _ => false
def cloCsB : List C → Bool
  | [] => true
  | c :: cs => cloCB c && cloCsB cs
def cloB : V → Bool
  | .c x => cloCB x
  | .agg cs => cloCsB cs
  | .unk => true
  | .tup _ => false
theorem cloCB_ok {c : C} (h : cloCB c = true) : cloC c := by
  unfold cloCB at h
  split at h <;> first | trivial | rfl | cases h
theorem cloCsB_ok : ∀ {cs : List C}, cloCsB cs = true → cloCs cs
  | [], _ => trivial
  | c :: cs, h => by
    simp only [cloCsB, Bool.and_eq_true] at h
    exact ⟨cloCB_ok h.1, cloCsB_ok h.2⟩
theorem cloB_ok {v : V} (h : cloB v = true) : clo v := by
  cases v with
  | c x => exact cloCB_ok h
  | agg cs => exact cloCsB_ok h
  | unk => trivial
  | tup => cases h
def QI.so : QI → Prop
  | .v x y => VEq x y
  | .c x y => CEq x y
  | .e x y => EEq x y
  | .vs xs ys => VEqs xs ys
  | .cs xs ys => CEqs xs ys
  | .en env e0 => envIs env e0
  | .eq π env e0 => envEq π env e0
  | .st π σ σ0 => stoEq π σ σ0
/-- One step of agreement. -/
inductive QQ : QI → Prop
  | vsn : QQ (.vs [] [])
  | vsc {x y : V} {xs ys : List V} (h : QI.so (.v x y)) (t : QI.so (.vs xs ys)) : QQ (.vs (x :: xs) (y :: ys))
  | csn : QQ (.cs [] [])
  | csc {x y : C} {xs ys : List C} (h : QI.so (.c x y)) (t : QI.so (.cs xs ys)) : QQ (.cs (x :: xs) (y :: ys))
  | enn {env : List (Nat × V)} : QQ (.en env [])
  | enc {env e0 : List (Nat × V)} {t : Nat} {v : V} (h : QI.so (.v (lk env t) v)) (c : cloB v = true) (r : QI.so (.en env e0)) : QQ (.en env ((t, v) :: e0))
  | eqn {π : Nat → Nat} {env : List (Nat × V)} : QQ (.eq π env [])
  | eqc {π : Nat → Nat} {env e0 : List (Nat × V)} {t : Nat} {v : V} (h : QI.so (.v (lk env t) (rnV π v))) (r : QI.so (.eq π env e0)) : QQ (.eq π env ((t, v) :: e0))
  | stn {π : Nat → Nat} {σ : Store} : QQ (.st π σ [])
  | stc {π : Nat → Nat} {σ σ0 : Store} {id : Nat} {x y : Ent} (g : get σ (π id) = some y) (h : QI.so (.e y (rnE π x))) (r : QI.so (.st π σ σ0)) : QQ (.st π σ ((id, x) :: σ0))
  | vr (x : V) : QQ (.v x x)
  | er (x : Ent) : QQ (.e x x)
  | cr (x : C) : QQ (.c x x)
  | tru {b : Bool} (h : b = true) : QQ (.v (.c .tru) (vbl b))
  | fls {b : Bool} (h : b = false) : QQ (.v (.c .fls) (vbl b))
  | bool {a b : Bool} (h : a = b) : QQ (.v (vbl a) (vbl b))
  | int {k : IntKind} {a b : Int} (h : a = b) : QQ (.v (vi k a) (vi k b))
  | nil {s : Nat} {g : Nat → List D} : QQ (.v (.c (.d (.v (.slice none 0 0)))) (.c (.d (.sl s 0 g))))
  | z {s : Nat} {g : Nat → List D} : QQ (.v (.c .z) (.c (.d (.sl s 0 g))))
  | li1 {a0 : Int} : QQ (.v (.c (.d (.sl 1 [[dI a0]].length fun i => [[dI a0]].getD i []))) (.c (ints [a0])))
  | li2 {a0 a1 : Int} : QQ (.v (.c (.d (.sl 1 [[dI a0], [dI a1]].length fun i => [[dI a0], [dI a1]].getD i []))) (.c (ints [a0, a1])))
  | li3 {a0 a1 a2 : Int} : QQ (.v (.c (.d (.sl 1 [[dI a0], [dI a1], [dI a2]].length fun i => [[dI a0], [dI a1], [dI a2]].getD i []))) (.c (ints [a0, a1, a2])))
  | li4 {a0 a1 a2 a3 : Int} : QQ (.v (.c (.d (.sl 1 [[dI a0], [dI a1], [dI a2], [dI a3]].length fun i => [[dI a0], [dI a1], [dI a2], [dI a3]].getD i []))) (.c (ints [a0, a1, a2, a3])))
  | lp1 {a0 b0 : Int} : QQ (.v (.c (.d (.sl 2 [[dI a0, dI b0]].length fun i => [[dI a0, dI b0]].getD i []))) (.c (prs [(a0, b0)])))
  | lp2 {a0 b0 a1 b1 : Int} : QQ (.v (.c (.d (.sl 2 [[dI a0, dI b0], [dI a1, dI b1]].length fun i => [[dI a0, dI b0], [dI a1, dI b1]].getD i []))) (.c (prs [(a0, b0), (a1, b1)])))
  | lp3 {a0 b0 a1 b1 a2 b2 : Int} : QQ (.v (.c (.d (.sl 2 [[dI a0, dI b0], [dI a1, dI b1], [dI a2, dI b2]].length fun i => [[dI a0, dI b0], [dI a1, dI b1], [dI a2, dI b2]].getD i []))) (.c (prs [(a0, b0), (a1, b1), (a2, b2)])))
  | lp4 {a0 b0 a1 b1 a2 b2 a3 b3 : Int} : QQ (.v (.c (.d (.sl 2 [[dI a0, dI b0], [dI a1, dI b1], [dI a2, dI b2], [dI a3, dI b3]].length fun i => [[dI a0, dI b0], [dI a1, dI b1], [dI a2, dI b2], [dI a3, dI b3]].getD i []))) (.c (prs [(a0, b0), (a1, b1), (a2, b2), (a3, b3)])))
  | lt1 {a0 b0 c0 : Int} : QQ (.v (.c (.d (.sl 3 [[dI a0, dI b0, dI c0]].length fun i => [[dI a0, dI b0, dI c0]].getD i []))) (.c (trs [(a0, b0, c0)])))
  | lt2 {a0 b0 c0 a1 b1 c1 : Int} : QQ (.v (.c (.d (.sl 3 [[dI a0, dI b0, dI c0], [dI a1, dI b1, dI c1]].length fun i => [[dI a0, dI b0, dI c0], [dI a1, dI b1, dI c1]].getD i []))) (.c (trs [(a0, b0, c0), (a1, b1, c1)])))
  | lt3 {a0 b0 c0 a1 b1 c1 a2 b2 c2 : Int} : QQ (.v (.c (.d (.sl 3 [[dI a0, dI b0, dI c0], [dI a1, dI b1, dI c1], [dI a2, dI b2, dI c2]].length fun i => [[dI a0, dI b0, dI c0], [dI a1, dI b1, dI c1], [dI a2, dI b2, dI c2]].getD i []))) (.c (trs [(a0, b0, c0), (a1, b1, c1), (a2, b2, c2)])))
  | ms {id n m : Nat} (h : n = m) : QQ (.v (.c (.ms id n)) (.c (.ms id m)))
  | sll {α : Type} {s : Nat} {row : α → List D} {d : α} {l m : List α} (h : l = m) : QQ (.v (.c (slv s row d l)) (.c (slv s row d m)))
  | aggs {xs ys : List C} (h : QI.so (.cs xs ys)) : QQ (.v (.agg xs) (.agg ys))
  | boxs {xs ys : List C} (h : QI.so (.cs xs ys)) : QQ (.e (.box xs) (.box ys))
  | app1 {e : TypeId} {l l' : List Int} {a : Int} (hl : l' = l ++ [a]) : QQ (.e (.row e 1 (l.length + 1) (fun i => if i < l.length then r1 (l.getD i 0) else ([[dI a]].getD (i - l.length) [])) false) (rowv e 1 r1 0 l'))
  | app2 {e : TypeId} {l l' : List (Int × Int)} {a b : Int} (hl : l' = l ++ [(a, b)]) : QQ (.e (.row e 2 (l.length + 1) (fun i => if i < l.length then r2 (l.getD i (0, 0)) else ([[dI a, dI b]].getD (i - l.length) [])) false) (rowv e 2 r2 (0, 0) l'))
  | app3 {e : TypeId} {l l' : List (Int × Int × Int)} {a b c : Int} (hl : l' = l ++ [(a, b, c)]) : QQ (.e (.row e 3 (l.length + 1) (fun i => if i < l.length then r3 (l.getD i (0, 0, 0)) else ([[dI a, dI b, dI c]].getD (i - l.length) [])) false) (rowv e 3 r3 (0, 0, 0) l'))
  | cms {id n m : Nat} (h : n = m) : QQ (.c (.ms id n) (.ms id m))
  | cint {k : IntKind} {a b : Int} (h : a = b) : QQ (.c (.d (.v (.int k a))) (.d (.v (.int k b))))
  | csll {α : Type} {s : Nat} {row : α → List D} {d : α} {l m : List α} (h : l = m) : QQ (.c (slv s row d l) (slv s row d m))
  | cnil {s : Nat} {g : Nat → List D} : QQ (.c (.d (.v (.slice none 0 0))) (.d (.sl s 0 g)))
  | cz {s : Nat} {g : Nat → List D} : QQ (.c .z (.d (.sl s 0 g)))
  | ctru {b : Bool} (h : b = true) : QQ (.c .tru (.d (.v (.bool b))))
  | cfls {b : Bool} (h : b = false) : QQ (.c .fls (.d (.v (.bool b))))
  | cbool {a b : Bool} (h : a = b) : QQ (.c (.d (.v (.bool a))) (.d (.v (.bool b))))
  | lit {α : Type} {s : Nat} {row : α → List D} {d : α} {l : List α} {rs : List (List D)} (h : rs = l.map row) : QQ (.v (.c (.d (.sl s rs.length fun i => rs.getD i []))) (.c (slv s row d l)))
  | clit {α : Type} {s : Nat} {row : α → List D} {d : α} {l : List α} {rs : List (List D)} (h : rs = l.map row) : QQ (.c (.d (.sl s rs.length fun i => rs.getD i [])) (slv s row d l))
  | fl {a b : Int} (h : a = b) : QQ (.v (.c (.fl a)) (.c (.fl b)))
  | cx {a b c d : Int} (h : a = c) (h2 : b = d) : QQ (.v (.c (.cx a b)) (.c (.cx c d)))
  | mp {m : Nat} {es es' : List (Int × Int)} (h : es = es') : QQ (.e (.mp m es) (.mp m es'))
  | drp {α : Type} {s k : Nat} {row : α → List D} {d : α} {l m : List α} (h : m = l.drop k) : QQ (.v (.c (.d (.sl s (l.length - k) fun i => row (l.getD (k + i) d)))) (.c (slv s row d m)))
  | tak {α : Type} {s k : Nat} {row : α → List D} {d : α} {l m : List α} (h : k ≤ l.length ∧ m = l.take k) : QQ (.v (.c (.d (.sl s k fun i => row (l.getD i d)))) (.c (slv s row d m)))
  | cut {α : Type} {s k j : Nat} {row : α → List D} {d : α} {l m : List α} (h : k ≤ j ∧ j ≤ l.length ∧ m = (l.take j).drop k) : QQ (.v (.c (.d (.sl s (j - k) fun i => row (l.getD (k + i) d)))) (.c (slv s row d m)))
  | dapp {α : Type} {s : Nat} {row : α → List D} {d : α} {l l' : List α} {r : List D} (h : ∃ x, r = row x ∧ l' = l ++ [x]) : QQ (.v (.c (.d (.sl s (l.length + 1) fun i => if i < l.length then row (l.getD i d) else ([r].getD (i - l.length) [])))) (.c (slv s row d l')))
  | appg {α : Type} {e : TypeId} {s : Nat} {row : α → List D} {d : α} {l l' : List α} {r : List D} (h : ∃ x, r = row x ∧ l' = l ++ [x]) : QQ (.e (.row e s (l.length + 1) (fun i => if i < l.length then row (l.getD i d) else ([r].getD (i - l.length) [])) false) (rowv e s row d l'))
  | apps {α : Type} {e : TypeId} {s : Nat} {row : α → List D} {d : α} {l m l' : List α} (h : l' = l ++ m) : QQ (.e (.row e s (l.length + m.length) (fun i => if i < l.length then row (l.getD i d) else row (m.getD (i - l.length) d)) false) (rowv e s row d l'))
  | setg {α : Type} {e : TypeId} {s i j : Nat} {row : α → List D} {d : α} {l l' : List α} {ds : List D} (h : ∃ x, putD (row (l.getD i d)) j ds = row x ∧ l' = l.set i x) : QQ (.e (.row e s l.length (setRw (fun k => row (l.getD k d)) i j ds) false) (rowv e s row d l'))
  | mk {α : Type} {e : TypeId} {s n : Nat} {row : α → List D} {d : α} {l : List α} {r : List D} (h : ∃ x, r = row x ∧ l = List.replicate n x) : QQ (.e (.row e s n (fun _ => r) false) (rowv e s row d l))
  | elit {α : Type} {e : TypeId} {s : Nat} {row : α → List D} {d : α} {l : List α} {rs : List (List D)} (h : rs = l.map row) : QQ (.e (.row e s rs.length (fun i => rs.getD i []) false) (rowv e s row d l))
  | rll {α : Type} {e : TypeId} {s : Nat} {row : α → List D} {d : α} {l m : List α} {b : Bool} (h : l = m) : QQ (.e (.row e s l.length (fun i => row (l.getD i d)) b) (.row e s m.length (fun i => row (m.getD i d)) b))
theorem setRw_eq {α : Type} {e : TypeId} {s : Nat} {row : α → List D} {d : α} {l l' : List α} {i j : Nat} {ds : List D} (x : α) (h : putD (row (l.getD i d)) j ds = row x) (hl : l' = l.set i x) : EEq (.row e s l.length (setRw (fun k => row (l.getD k d)) i j ds) false) (rowv e s row d l') := by
  subst hl
  refine EEq.rowl (by simp) fun k hk => ?_
  unfold Pw.setRw
  rw [List.getD_eq_getElem?_getD (l := l.set i x), List.getElem?_set]
  split
  · rename_i hb
    have hb := Nat.eq_of_beq_eq_true hb
    subst hb
    rw [h, if_pos rfl, if_pos hk]; rfl
  · rename_i hb
    have hb : ¬ i = k := fun h => by subst h; rw [Nat.beq_refl] at hb; cases hb
    rw [if_neg hb]; show row (l.getD k d) = _; rw [List.getD_eq_getElem?_getD]
theorem getD_drop' {α : Type} {d : α} {l : List α} {k i : Nat} : (l.drop k).getD i d = l.getD (k + i) d := by
  simp only [List.getD_eq_getElem?_getD, List.getElem?_drop]
theorem getD_take' {α : Type} {d : α} {l : List α} {k i : Nat} (h : i < k) : (l.take k).getD i d = l.getD i d := by
  simp only [List.getD_eq_getElem?_getD, List.getElem?_take, if_pos h]
theorem lit_eq {α : Type} {s : Nat} {row : α → List D} {d : α} {l : List α} {rs : List (List D)} (h : rs = l.map row) : CEq (.d (.sl s rs.length fun i => rs.getD i [])) (slv s row d l) := by
  subst h
  refine CEq.sl (by simp) fun i hi => ?_
  have hi : i < l.length := by simpa using hi
  rw [List.getD_eq_getElem?_getD, List.getD_eq_getElem?_getD, List.getElem?_map, List.getElem?_eq_getElem hi]
  rfl
theorem QQ.sound {q : QI} (h : QQ q) : q.so := by
  cases h with
  | vsn | csn | enn | eqn | stn => trivial
  | vsc h t => exact ⟨h, t⟩
  | csc h t => exact ⟨h, t⟩
  | enc h c r => exact ⟨⟨h, cloB_ok c⟩, r⟩
  | eqc h r => exact ⟨h, r⟩
  | stc g h r => exact ⟨by rw [g]; exact h, r⟩
  | vr x => exact VEq.refl x
  | er x => exact EEq.same x
  | cr x => exact CEq.refl x
  | tru h => exact VEq.tru h
  | fls h => exact VEq.fls h
  | bool h => exact VEq.bool h
  | int h => exact VEq.int h
  | nil => exact VEq.nil
  | z => exact .c _ _ (.z _ _)
  | li1 => exact VEq.li_1
  | li2 => exact VEq.li_2
  | li3 => exact VEq.li_3
  | li4 => exact VEq.li_4
  | lp1 => exact VEq.lp_1
  | lp2 => exact VEq.lp_2
  | lp3 => exact VEq.lp_3
  | lp4 => exact VEq.lp_4
  | lt1 => exact VEq.lt_1
  | lt2 => exact VEq.lt_2
  | lt3 => exact VEq.lt_3
  | ms h => exact VEq.ms h
  | sll h => exact VEq.sll h
  | aggs h => exact VEq.aggs h
  | boxs h => exact EEq.boxs h
  | app1 h => exact EEq.app1 h
  | app2 h => exact EEq.app2 h
  | app3 h => exact EEq.app3 h
  | cms h => exact CEq.ms h
  | cint h => exact CEq.int h
  | csll h => exact CEq.sll h
  | cnil => exact CEq.nil
  | cz => exact .z _ _
  | ctru h => subst h; exact .tru
  | cfls h => subst h; exact .fls
  | cbool h => subst h; exact .refl _
  | lit h => exact .c _ _ (lit_eq h)
  | clit h => exact lit_eq h
  | fl h => subst h; exact .refl _
  | cx h h2 => subst h; subst h2; exact .refl _
  | mp h => subst h; exact .mp _ _
  | drp h => subst h; exact .c _ _ (CEq.sl (by simp) fun i hi => by rw [getD_drop'])
  | tak h => obtain ⟨h1, rfl⟩ := h; exact .c _ _ (CEq.sl (by simp; omega) fun i hi => by rw [getD_take' hi])
  | cut h => obtain ⟨h1, h2, rfl⟩ := h; exact .c _ _ (CEq.sl (by simp; omega) fun i hi => by rw [getD_drop', getD_take' (by omega)])
  | dapp h => obtain ⟨x, h1, rfl⟩ := h; exact .c _ _ (CEq.sl (by simp) fun i hi => row_app h1 i hi)
  | appg h => obtain ⟨x, h1, h2⟩ := h; exact EEq.app x h1 h2
  | apps h =>
    subst h
    refine EEq.rowl (by simp) fun i hi => ?_
    split
    · rename_i hlt; rw [List.getD_eq_getElem?_getD, List.getD_eq_getElem?_getD, List.getElem?_append_left hlt]
    · rename_i hlt; rw [List.getD_eq_getElem?_getD, List.getD_eq_getElem?_getD, List.getElem?_append_right (by omega)]
  | setg h => obtain ⟨x, h1, h2⟩ := h; exact setRw_eq x h1 h2
  | mk h =>
    obtain ⟨x, rfl, rfl⟩ := h
    refine EEq.rowl (by simp) fun i hi => ?_
    rw [List.getD_eq_getElem?_getD, List.getElem?_replicate, if_pos hi]; rfl
  | elit h =>
    subst h
    refine EEq.rowl (by simp) fun i hi => ?_
    rw [List.length_map] at hi
    rw [List.getD_eq_getElem?_getD, List.getD_eq_getElem?_getD, List.getElem?_map, List.getElem?_eq_getElem hi]
    rfl
  | rll h => subst h; exact EEq.same _
theorem qS {q : QI} (h : QQ q) : q.so := h.sound
theorem qv {x y : V} (h : QI.so (.v x y)) : VEq x y := h
theorem qc {x y : C} (h : QI.so (.c x y)) : CEq x y := h
theorem qe {x y : Ent} (h : QI.so (.e x y)) : EEq x y := h
theorem qvs {x y : List V} (h : QI.so (.vs x y)) : VEqs x y := h
theorem qcs {x y : List C} (h : QI.so (.cs x y)) : CEqs x y := h
theorem qen {x y : List (Nat × V)} (h : QI.so (.en x y)) : envIs x y := h
theorem qeq {π : Nat → Nat} {x y : List (Nat × V)} (h : QI.so (.eq π x y)) : envEq π x y := h
theorem qst {π : Nat → Nat} {x y : Store} (h : QI.so (.st π x y)) : stoEq π x y := h
theorem qis {base : Nat} {st st0 : St} {l : List Nat} (h : QI.so (.eq (nmAt base l) st.env st0.env)) (h2 : QI.so (.st (nmAt base l) st.σ st0.σ)) (nm : (nmOk base st0.nx l && envLtB st0.nx st0.env && stoLtB st0.nx st0.σ) = true := by exact rfl) : Is base st st0 l := ⟨nm, h, h2⟩
section
variable {P : Program} [m : Mix P] {N base : Nat}
theorem rqK {nx nx' : Nat} {rl : List RL} {vs vs0 : List V} {e : Exit} {st : St} (hres : resAll st.env st.σ rl = some vs0) (hv : QI.so (.vs vs0 vs)) (he : e = .normal ∨ e = .ret := by first | exact .inr rfl | exact .inl rfl) (hle : nx ≤ nx' := by exact Nat.le_refl _) (hc : cloL vs := by simp only [cloL, clo, cloC, cloCs, and_self]) : RetQ nx rl vs [] nx' e st :=
  RetQ.plain hle he hres hc hv
theorem rqF {nx nx' : Nat} {rl : List RL} {vs vs0 : List V} {e : Exit} {env : List (Nat × V)} {σ : Store} {nx1 : Nat} (t : Nat) (id : Nat) {n : Nat} {ty : TypeId} {s m : Nat} {f : Nat → List D} {fz : Bool} (hres : resAll env σ rl = some vs0) (h : lk (argEnv 0 vs0) t = .c (.ms id n)) (hg : get σ id = some (.row ty s m f fz))
    (hv : QI.so (.en ((t, .c (.d (.sl s n f))) :: argEnv 0 vs0) (argEnv 0 vs))) (hl : Nat.beq vs0.length vs.length = true := by exact rfl) (hle : Nat.ble nx nx' = true := by exact rfl) (hn : n ≤ m := by exact Nat.le_refl _) (he : e = .normal ∨ e = .ret := by first | exact .inr rfl | exact .inl rfl) : RetQ nx rl vs [] nx' e ⟨env, σ, nx1⟩ :=
  RetQ.of he hres hl ((Mv.freeze t id h hg hn).trans (Mv.plain hle hv))
theorem rqA {nx nx' : Nat} {rl : List RL} {vs vs0 : List V} {e : Exit} {env : List (Nat × V)} {σ : Store} {nx1 : Nat} (t j : Nat) (id : Nat) {cs : List C} {n : Nat} {ty : TypeId} {s m : Nat} {f : Nat → List D} {fz : Bool} (hres : resAll env σ rl = some vs0) (h : lk (argEnv 0 vs0) t = .agg cs) (hj : cs[j]? = some (.ms id n)) (hg : get σ id = some (.row ty s m f fz))
    (hv : QI.so (.en ((t, .agg (putAt cs j (.d (.sl s n f)))) :: argEnv 0 vs0) (argEnv 0 vs))) (hl : Nat.beq vs0.length vs.length = true := by exact rfl) (hle : Nat.ble nx nx' = true := by exact rfl) (hn : n ≤ m := by exact Nat.le_refl _) (he : e = .normal ∨ e = .ret := by first | exact .inr rfl | exact .inl rfl) : RetQ nx rl vs [] nx' e ⟨env, σ, nx1⟩ :=
  RetQ.of he hres hl ((Mv.freezeA t j id h hj hg hn).trans (Mv.plain hle hv))
theorem pi1 {f : FuncId} {lc : LCode} {rl : List RL} {args : List V} {v : V} (hf : FnOk P f N lc rl) (h : wp P N 0 lc ⟨argEnv 0 args, [], 0⟩ (RetQ 0 rl [v] [] 0)) (hN : Nat.ble args.length N = true := by exact rfl) (hc : cloL args := by simp only [cloL, clo, cloC, cloCs, and_self]) : PFD P f args v := PFD.of (vs := [v]) hf hN hc h
theorem pi2 {f : FuncId} {lc : LCode} {rl : List RL} {args : List V} {v v2 : V} (hf : FnOk P f N lc rl) (h : wp P N 0 lc ⟨argEnv 0 args, [], 0⟩ (RetQ 0 rl [v, v2] [] 0)) (hN : Nat.ble args.length N = true := by exact rfl) (hc : cloL args := by simp only [cloL, clo, cloC, cloCs, and_self]) : PFD P f args (.tup [v, v2]) := PFD.of (vs := [v, v2]) hf hN hc h
theorem pi3 {f : FuncId} {lc : LCode} {rl : List RL} {args : List V} {v v2 v3 : V} (hf : FnOk P f N lc rl) (h : wp P N 0 lc ⟨argEnv 0 args, [], 0⟩ (RetQ 0 rl [v, v2, v3] [] 0)) (hN : Nat.ble args.length N = true := by exact rfl) (hc : cloL args := by simp only [cloL, clo, cloC, cloCs, and_self]) : PFD P f args (.tup [v, v2, v3]) := PFD.of (vs := [v, v2, v3]) hf hN hc h
theorem fits {env : List (Nat × V)} {xs : List Operand} {args : List V} (h : Fits env xs args := by first | exact Fits.eq rfl | exact Fits.veq (qvs (by (repeat' first | exact rfl | (refine qS ?_; constructor)) <;> fail))) : Fits env xs args := h
variable {dst : Option Nat} {fop : Operand} {xs : List Operand} {g : Option (Nat × Bool)} {rest : List LIns} {env : List (Nat × V)} {σ : Store} {nx : Nat} {K : St → Prop} {f : FuncId} {args : List V} {v : V} {p : Prop} {M : List Nat} {acc : List (Bool × List Nat)}
theorem A1.oK (hc : PFD P f args v) (hf : evo env fop = .c (.fn f [])) (hg : guardOf env g = .run) (ha : (xs.map (evo env)).map normA = args) (h : putK dst v env fun env' => wpOps P N base rest env' σ nx none K) : OpsL P N base (⟨dst, .call fop xs, g⟩ :: rest) ⟨env, σ, nx⟩ K := Ops.pc hf (Fits.eq ha) hc hg h
theorem A2.oK (hc : p → PFD P f args v) (hf : evo env fop = .c (.fn f [])) (hg : guardOf env g = .run) (ha : (xs.map (evo env)).map normA = args) (h : putK dst v env fun env' => wpOps P N base rest env' σ nx none K) (hp : p := by exact ob) : OpsL P N base (⟨dst, .call fop xs, g⟩ :: rest) ⟨env, σ, nx⟩ K := Ops.pc hf (Fits.eq ha) (hc hp) hg h
theorem A3.oK (hc : PFD P f args v) (hf : evo env fop = .c (.fn f [])) (hg : guardOf env g = .run) (ha : (xs.map (evo env)).map normA = args) (h : putK dst v env fun env' => wpD P N base M rest env' σ nx none ((false, []) :: acc) K) : OpsDL P N base M (⟨dst, .call fop xs, g⟩ :: rest) ⟨env, σ, nx⟩ acc K := OpsD.pc hf (Fits.eq ha) hc hg h
theorem A4.oK (hc : p → PFD P f args v) (hf : evo env fop = .c (.fn f [])) (hg : guardOf env g = .run) (ha : (xs.map (evo env)).map normA = args) (h : putK dst v env fun env' => wpD P N base M rest env' σ nx none ((false, []) :: acc) K) (hp : p := by exact ob) : OpsDL P N base M (⟨dst, .call fop xs, g⟩ :: rest) ⟨env, σ, nx⟩ acc K := OpsD.pc hf (Fits.eq ha) (hc hp) hg h
theorem A1.pK (hc : PFD P f args v) (hf : evo env fop = .c (.fn f [])) (hg : guardOf env g = .run) (h : putK dst v env fun env' => wpOps P N base rest env' σ nx none K) (ha : Fits env xs args := by exact fits) : OpsL P N base (⟨dst, .call fop xs, g⟩ :: rest) ⟨env, σ, nx⟩ K := Ops.pc hf ha hc hg h
theorem A2.pK (hc : p → PFD P f args v) (hf : evo env fop = .c (.fn f [])) (hg : guardOf env g = .run) (h : putK dst v env fun env' => wpOps P N base rest env' σ nx none K) (ha : Fits env xs args := by exact fits) (hp : p := by exact ob) : OpsL P N base (⟨dst, .call fop xs, g⟩ :: rest) ⟨env, σ, nx⟩ K := Ops.pc hf ha (hc hp) hg h
theorem A3.pK (hc : PFD P f args v) (hf : evo env fop = .c (.fn f [])) (hg : guardOf env g = .run) (h : putK dst v env fun env' => wpD P N base M rest env' σ nx none ((false, []) :: acc) K) (ha : Fits env xs args := by exact fits) : OpsDL P N base M (⟨dst, .call fop xs, g⟩ :: rest) ⟨env, σ, nx⟩ acc K := OpsD.pc hf ha hc hg h
theorem A4.pK (hc : p → PFD P f args v) (hf : evo env fop = .c (.fn f [])) (hg : guardOf env g = .run) (h : putK dst v env fun env' => wpD P N base M rest env' σ nx none ((false, []) :: acc) K) (ha : Fits env xs args := by exact fits) (hp : p := by exact ob) : OpsDL P N base M (⟨dst, .call fop xs, g⟩ :: rest) ⟨env, σ, nx⟩ acc K := OpsD.pc hf ha (hc hp) hg h
variable {rows : List (List D)}
variable {ds : List D}
end
end Go.Pw

set_option linter.unusedVariables false
namespace Go.Pw
open Go Go.RowKit
theorem liveId_setE {Γ : Cx} {σ : Store} {id : Nat} {x y : Ent} (hg : get σ id = some x) (h : EEq x y) (j : Nat) : LiveId Γ (set σ id y) j ↔ LiveId Γ σ j := by
  rw [liveId_iff, liveId_iff]
  by_cases hj : j = id
  · subst hj
    rw [get_set_same hg]
    constructor
    · rintro ⟨e, he, hl⟩; cases he; exact ⟨x, hg, h.live.1 hl⟩
    · rintro ⟨e, he, hl⟩; rw [hg] at he; cases he; exact ⟨y, rfl, h.live.2 hl⟩
  · rw [get_set_other hj]
theorem StoreOk.setE {Γ : Cx} {w : World} {σ : Store} {id : Nat} {x y : Ent} (hs : StoreOk Γ w σ) (hg : get σ id = some x) (h : EEq x y) : StoreOk Γ w (set σ id y) where
  im := hs.im
  ok := fun j e he => by
    by_cases hj : j = id
    · subst hj
      rw [get_set_same hg] at he; cases he
      obtain ⟨b, hb, hok⟩ := hs.ok j x hg
      exact ⟨b, hb, h.ent hok⟩
    · rw [get_set_other hj] at he; exact hs.ok j e he
  inj := fun i j k hi hj => hs.inj i j k ((liveId_setE hg h i).1 hi) ((liveId_setE hg h j).1 hj)
  lay := hs.lay
theorem Mv.ent {base : Nat} {env : List (Nat × V)} {σ : Store} {nx id : Nat} {x y : Ent} (hg : get σ id = some x) (h : EEq x y) : Mv base ⟨env, σ, nx⟩ ⟨env, set σ id y, nx⟩ := fun N B0 Γ w a hc => by
  have hl : ∀ k, Live Γ (set σ id y) k ↔ Live Γ σ k := fun k => ⟨fun ⟨i, hi, hk⟩ => ⟨i, (liveId_setE hg h i).1 hi, hk⟩, fun ⟨i, hi, hk⟩ => ⟨i, (liveId_setE hg h i).2 hi, hk⟩⟩
  refine ⟨Γ, ⟨hc.size, hc.env, hc.ok.setE hg h, hc.free, hc.le, ?_⟩, ⟨rfl, rfl, rfl, Nat.le_refl _, fun _ h => h, fun _ h => .inl h, fun _ _ => rfl, fun _ _ => rfl, fun _ _ _ => rfl, fun k hk => .inl ((hl k).1 hk)⟩⟩
  obtain ⟨Ds, d1, d2, d3⟩ := hc.dfs
  refine ⟨Ds, d1, d2, fun D hD => ?_⟩
  obtain ⟨d4, d5, d6, d7⟩ := d3 D hD
  exact ⟨d4, d5, fun hlv => d6 ((hl D).1 hlv), d7⟩
section
variable {P : Program} {N base : Nat} {env : List (Nat × V)} {σ : Store} {nx : Nat} {x y : Ent}
theorem OpsL.ent {ops : List LIns} {K : St → Prop} (id : Nat) (hg : get σ id = some x) (h : EEq x y) (k : frS (set σ id y) fun σ' => OpsL P N base ops ⟨env, σ', nx⟩ K) : OpsL P N base ops ⟨env, σ, nx⟩ K := by
  rw [frS_eq] at k
  exact ⟨Ops.from (Mv.ent hg h) k.h⟩
theorem SatL.ent {c : LCode} {Q : Exit → St → Prop} (id : Nat) (hg : get σ id = some x) (h : EEq x y) (k : frS (set σ id y) fun σ' => SatL P N base c ⟨env, σ', nx⟩ Q) : SatL P N base c ⟨env, σ, nx⟩ Q := by
  rw [frS_eq] at k
  exact ⟨Sat.from (Mv.ent hg h) k.h⟩
theorem MvQ.ent {e : Exit} {Q : Exit → St → Prop} (id : Nat) (hg : get σ id = some x) (h : EEq x y) (k : frS (set σ id y) fun σ' => MvQ base Q e ⟨env, σ', nx⟩) : MvQ base Q e ⟨env, σ, nx⟩ := by
  rw [frS_eq] at k
  exact MvQ.from (Mv.ent hg h) k
/-- A slot says it otherwise. -/
theorem SatL.as {c : LCode} {Q : Exit → St → Prop} (t : Nat) (v : V) (h : VEq (lk env t) v) (k : SatL P N base c ⟨(t, v) :: env, σ, nx⟩ Q) : SatL P N base c ⟨env, σ, nx⟩ Q :=
  ⟨Sat.from (Mv.env fun t' => by
    rw [lk_cons]
    split
    · rename_i ht; subst ht; exact h.ri
    · exact RI.refl _) k.h⟩
theorem OpsL.as {ops : List LIns} {K : St → Prop} (t : Nat) (v : V) (h : VEq (lk env t) v) (k : OpsL P N base ops ⟨(t, v) :: env, σ, nx⟩ K) : OpsL P N base ops ⟨env, σ, nx⟩ K :=
  ⟨Ops.from (Mv.env fun t' => by
    rw [lk_cons]
    split
    · rename_i ht; subst ht; exact h.ri
    · exact RI.refl _) k.h⟩
theorem VEq.cut {α : Type} {s k j : Nat} {row : α → List D} {d : α} {l m : List α} (h1 : k ≤ j) (h2 : j ≤ l.length) (h : m = (l.take j).drop k) : VEq (.c (.d (.sl s (j - k) fun i => row (l.getD (k + i) d)))) (.c (slv s row d m)) := QQ.sound (.cut ⟨h1, h2, h⟩)
/-- The row of a slot is closed. -/
theorem SatL.frz {c : LCode} {Q : Exit → St → Prop} (t id : Nat) {n : Nat} {e : TypeId} {s m : Nat} {f : Nat → List D} {fz : Bool} (h : lk env t = .c (.ms id n)) (hg : get σ id = some (.row e s m f fz)) (hn : n ≤ m)
    (k : frS (set σ id (.row e s m f true)) fun σ' => SatL P N base c ⟨(t, .c (.d (.sl s n f))) :: env, σ', nx⟩ Q) : SatL P N base c ⟨env, σ, nx⟩ Q := by
  rw [frS_eq] at k
  exact ⟨Sat.from (Mv.freeze t id h hg hn) k.h⟩
end
end Go.Pw

set_option linter.unusedVariables false
namespace Go.Pw
open Go Go.RowKit
/-- The row that lies in a cell of a box is closed; the cell holds data. -/
theorem Mv.freezeX {base : Nat} {env : List (Nat × V)} {σ : Store} {nx : Nat} (idb j id : Nat) {cs : List C} {n : Nat} {e : TypeId} {s m : Nat} {f : Nat → List D} {fz : Bool} (hbx : get σ idb = some (.box cs)) (hj : cs[j]? = some (.ms id n)) (hg : get σ id = some (.row e s m f fz)) (hn : n ≤ m) :
    Mv base ⟨env, σ, nx⟩ ⟨env, set (set σ id (.row e s m f true)) idb (.box (putAt cs j (.d (.sl s n f)))), nx⟩ := fun N B0 Γ w a hc => by
  have hne : idb ≠ id := fun h => by subst h; rw [hbx] at hg; cases hg
  obtain ⟨Γ', b, hb, rfl, h1, h2⟩ := hc.freeze hg
  have hg' : get (set σ id (.row e s m f true)) idb = some (.box cs) := by rw [get_set_other hne]; exact hbx
  obtain ⟨b2, hb2, hok2⟩ := h1.ok.ok idb _ hg'
  obtain ⟨hI, xs, t, hh, hl, hr⟩ := hok2
  obtain ⟨b3, hb3, hok3⟩ := hc.ok.ok idb _ hbx
  have : b3 = b2 := by
    have e : Γ.ρ idb = some b2 := hb2
    rw [hb3] at e; cases e; rfl
  subst this
  obtain ⟨_, xs', t', hh', _, hr'⟩ := hok3
  rw [hh] at hh'; cases hh'
  have h3 := h1.ok.modify (w' := w) (e' := .box (putAt cs j (.d (.sl s n f)))) hg' hb2 trivial (Nat.le_refl _) (fun _ _ _ => rfl) ⟨hI, xs, t, hh, by rw [hl, putAt_length], fun i c hc' => by
    rw [putAt_get] at hc'
    split at hc'
    · rename_i hi
      cases hc'
      obtain ⟨rfl, hi⟩ := hi
      obtain ⟨x, hx, hrx⟩ := hr' i _ hj
      obtain ⟨b', hb', hd⟩ := ms_data hc.ok hg hn hrx
      rw [hb] at hb'; cases hb'
      exact ⟨x, hx, hd _ (fun k hk => .inl hk) (fun hcc => .inr ⟨rfl, hcc⟩)⟩
    · exact hr i c hc'⟩
  have hext : Ext base Γ w σ (Γ.also fun k => k = b ∧ ∃ c, Γ.κ id = some c) w (set (set σ id (.row e s m f true)) idb (.box (putAt cs j (.d (.sl s n f))))) :=
    ⟨h2.os, h2.tape, h2.output, h2.size, h2.im, h2.new, h2.ρ, h2.κ, h2.keep, fun k hk => h2.live k (live_set hg' trivial hk)⟩
  refine ⟨_, ⟨h1.size, h1.env, h3, h1.free, h1.le, ?_⟩, hext⟩
  obtain ⟨Ds, d1, d2, d3⟩ := h1.dfs
  refine ⟨Ds, d1, d2, fun D hD => ?_⟩
  obtain ⟨d4, d5, d6, d7⟩ := d3 D hD
  exact ⟨d4, d5, fun hlv => d6 (live_set hg' trivial hlv), d7⟩
section
variable {P : Program} {N base : Nat}
theorem MvQ.frzX {Q : Exit → St → Prop} {x : Exit} {env : List (Nat × V)} {σ : Store} {nx : Nat} (idb j id : Nat) {cs : List C} {n : Nat} {e : TypeId} {s m : Nat} {f : Nat → List D} {fz : Bool} (hbx : get σ idb = some (.box cs)) (hj : cs[j]? = some (.ms id n)) (hg : get σ id = some (.row e s m f fz)) (hn : n ≤ m)
    (k : frS (set (set σ id (.row e s m f true)) idb (.box (putAt cs j (.d (.sl s n f))))) fun σ' => MvQ base Q x ⟨env, σ', nx⟩) : MvQ base Q x ⟨env, σ, nx⟩ := by
  rw [frS_eq] at k
  exact MvQ.from (Mv.freezeX idb j id hbx hj hg hn) k
theorem OpsL.frzX {ops : List LIns} {K : St → Prop} {env : List (Nat × V)} {σ : Store} {nx : Nat} (idb j id : Nat) {cs : List C} {n : Nat} {e : TypeId} {s m : Nat} {f : Nat → List D} {fz : Bool} (hbx : get σ idb = some (.box cs)) (hj : cs[j]? = some (.ms id n)) (hg : get σ id = some (.row e s m f fz)) (hn : n ≤ m)
    (k : frS (set (set σ id (.row e s m f true)) idb (.box (putAt cs j (.d (.sl s n f))))) fun σ' => OpsL P N base ops ⟨env, σ', nx⟩ K) : OpsL P N base ops ⟨env, σ, nx⟩ K := by
  rw [frS_eq] at k
  exact ⟨Ops.from (Mv.freezeX idb j id hbx hj hg hn) k.h⟩
theorem SatL.frzX {c : LCode} {Q : Exit → St → Prop} {env : List (Nat × V)} {σ : Store} {nx : Nat} (idb j id : Nat) {cs : List C} {n : Nat} {e : TypeId} {s m : Nat} {f : Nat → List D} {fz : Bool} (hbx : get σ idb = some (.box cs)) (hj : cs[j]? = some (.ms id n)) (hg : get σ id = some (.row e s m f fz)) (hn : n ≤ m)
    (k : frS (set (set σ id (.row e s m f true)) idb (.box (putAt cs j (.d (.sl s n f))))) fun σ' => SatL P N base c ⟨env, σ', nx⟩ Q) : SatL P N base c ⟨env, σ, nx⟩ Q := by
  rw [frS_eq] at k
  exact ⟨Sat.from (Mv.freezeX idb j id hbx hj hg hn) k.h⟩
theorem nmAt_nil (base : Nat) : nmAt base [] = id := by
  funext i
  unfold nmAt
  split <;> rfl
/-- What a function does to the store that it is given, from its code. -/
theorem CallD.of [m : Mix P] {f : FuncId} {lc : LCode} {rl : List RL} {args vs : List V} {σ σ' : Store} {nx nx' : Nat} (hf : FnOk P f N lc rl) (hN : Nat.ble args.length N = true) (hle : Nat.ble nx nx' = true) (hin : Is nx ⟨argEnv 0 args, σ, nx⟩ ⟨argEnv 0 args, σ, nx⟩ [])
    (h : wp P N nx lc ⟨argEnv 0 args, σ, nx⟩ (RetQ nx rl vs σ' nx')) : CallD P f args σ nx (retV vs) σ' nx' := by
  obtain ⟨hent, own, fn, h1, h2⟩ := hf
  have := hin.wk
  rw [nmAt_nil] at this
  exact CallD.enter h1 hent h2 (Nat.le_of_ble_eq_true hN) (Nat.le_of_ble_eq_true hle) this (Sat.of h)
theorem RetQ.is {nx nx' : Nat} {rl : List RL} {vs : List V} {σ' : Store} {e : Exit} {env : List (Nat × V)} (hres : resAll env σ' rl = some vs) (he : e = .normal ∨ e = .ret := by first | exact .inr rfl | exact .inl rfl) : RetQ nx rl vs σ' nx' e ⟨env, σ', nx'⟩ :=
  ⟨he, vs, hres, rfl, Mv.refl _ _⟩
end
end Go.Pw

set_option linter.unusedVariables false
namespace Go.Pw
open Go Go.RowKit
/-- A call that leaves what was there as it was, and hands back data that lies there or in new blocks. -/
theorem pfd_below {P : Program} {f : FuncId} {args : List V} {v : V} (hent : Ent1 P f)
    (h : ∀ (Γ : Cx) (w : World) (us : Array Value), StoreOk Γ w [] → RepL Γ w args us → Calls P f us w fun e w' => ∃ u, e = .returned u ∧ Below w.heap.size w w' ∧ RepV ⟨fun k => Γ.I k ∨ (w.heap.size ≤ k ∧ k < w'.heap.size), Γ.ρ, Γ.κ⟩ w' v u) : PFD P f args v := by
  refine ⟨hent, Nat.le_refl _, fun Γ w us hst hno hr => (h Γ w us hst hr).mono fun e w' ⟨u, he, hB, hv⟩ => ⟨u, _, he, hv, storeOk_nil (fun k hk => ?_) (hst.lay.mono (fun _ h => .inl h) fun k hI => hB.block k (hst.im k hI)), ⟨fun k h => .inl h, fun _ _ h => h, fun _ _ _ => rfl⟩, fun _ _ => ⟨rfl, rfl⟩,
    ⟨hB.os, hB.tape, hB.output, hB.size, fun k h => .inl h, fun k h => ?_, fun _ _ => rfl, fun _ _ => rfl, fun k hk _ => hB.block k hk, fun k h => absurd h not_live_nil⟩⟩⟩
  · rcases hk with hk | hk
    · exact Nat.lt_of_lt_of_le (hst.im k hk) hB.size
    · exact hk.2
  · rcases h with h | h
    · exact .inl h
    · exact .inr (.inl h.1)
theorem RepL.one {Γ : Cx} {w : World} {a : V} {us : Array Value} (h : RepL Γ w [a] us) : ∃ u, us = #[u] ∧ RepV Γ w a u := by
  obtain ⟨us⟩ := us
  have h1 := h.1
  match us, h1 with
  | [u], _ => exact ⟨u, rfl, h.2 0 _ _ rfl rfl⟩
theorem RepL.two {Γ : Cx} {w : World} {a b : V} {us : Array Value} (h : RepL Γ w [a, b] us) : ∃ u v, us = #[u, v] ∧ RepV Γ w a u ∧ RepV Γ w b v := by
  obtain ⟨us⟩ := us
  have h1 := h.1
  match us, h1 with
  | [u, v], _ => exact ⟨u, v, rfl, h.2 0 _ _ rfl rfl, h.2 1 _ _ rfl rfl⟩
/-- What the memory was at the call, in the memory of now. -/
theorem LayOk.cell {I : Nat → Prop} {w : World} (h : LayOk I w) : ∃ W0, LaidW W0 ∧ (∀ a v, W0.cell? a = some v → w.cell? a = some v) ∧ ∀ k, k < W0.heap.size → w.heap[k]? = W0.heap[k]? := by
  obtain ⟨W0, h1, h2⟩ := h
  refine ⟨W0, h1, fun a v hv => ?_, fun k hk => (h2 k hk).2⟩
  have hb := World.block_lt_of_cell? _ _ hv
  have e := (h2 _ hb).2
  rw [← hv]
  simp only [World.cell?, e]
end Go.Pw

set_option linter.unusedSimpArgs false
set_option linter.unusedVariables false
set_option maxHeartbeats 2000000
set_option maxRecDepth 100000
namespace Go.Pw
open Go Go.RowKit Go.Sort Go.Lib Go.Shelf
open Go.Proofs
def sh_lays156_ren : Go.Shelf.Ren := ⟨fun | 156 => 93 | 165 => 182 | 166 => 183 | 169 => 184 | 240 => 245 | 241 => 246 | 276 => 275 | 277 => 276 | n => n, fun | 31 => 158 | 9 => 9 | 3 => 3 | 4 => 4 | 0 => 0 | 20 => 20 | 72 => 255 | 76 => 259 | 70 => 252 | 37 => 253 | 75 => 258 | 127 => 305 | 164 => 328 | 5 => 5 | 80 => 261 | n => n, fun | n => n⟩
theorem sh_lays156 : Go.Proofs.Lays.n156 Tryz.prog sh_lays156_ren := {
  mixed := by kernel_rfl
  f156 := Tryz.func93.trans (congrArg some (by kernel_rfl))
  f165 := Tryz.func182.trans (congrArg some (by kernel_rfl))
  f166 := Tryz.func183.trans (congrArg some (by kernel_rfl))
  f169 := Tryz.func184.trans (congrArg some (by kernel_rfl))
  f240 := Tryz.func245.trans (congrArg some (by kernel_rfl))
  f241 := Tryz.func246.trans (congrArg some (by kernel_rfl))
  f276 := Tryz.func275.trans (congrArg some (by kernel_rfl))
  f277 := Tryz.func276.trans (congrArg some (by kernel_rfl))
  t0 := Tryz.underlying0
  a0 := Tryz.isAgg0
  z0 := Tryz.sizeOf0
  v0 := Tryz.zeroValue0
  t3 := Tryz.underlying3
  a3 := Tryz.isAgg3
  z3 := Tryz.sizeOf3
  v3 := Tryz.zeroValue3
  t4 := Tryz.underlying4
  a4 := Tryz.isAgg4
  z4 := Tryz.sizeOf4
  v4 := Tryz.zeroValue4
  t9 := Tryz.underlying9
  a9 := Tryz.isAgg9
  z9 := Tryz.sizeOf9
  v9 := Tryz.zeroValue9
  t20 := Tryz.underlying20
  a20 := Tryz.isAgg20
  z20 := Tryz.sizeOf20
  v20 := Tryz.zeroValue20
  t31 := Tryz.underlying158
  a31 := Tryz.isAgg158
  z31 := Tryz.sizeOf158
  v31 := Tryz.zeroValue158
  t37 := Tryz.underlying253
  a37 := Tryz.isAgg253
  z37 := Tryz.sizeOf253
  v37 := Tryz.zeroValue253
  t70 := Tryz.underlying252
  a70 := Tryz.isAgg252
  z70 := Tryz.sizeOf252
  v70 := Tryz.zeroValue252
  t72 := Tryz.underlying255
  a72 := Tryz.isAgg255
  z72 := Tryz.sizeOf255
  v72 := Tryz.zeroValue255
  t75 := Tryz.underlying258
  a75 := Tryz.isAgg258
  z75 := Tryz.sizeOf258
  v75 := Tryz.zeroValue258
  t76 := Tryz.underlying259
  a76 := Tryz.isAgg259
  z76 := Tryz.sizeOf259
  v76 := Tryz.zeroValue259
  t127 := Tryz.underlying305
  a127 := Tryz.isAgg305
  z127 := Tryz.sizeOf305
  v127 := Tryz.zeroValue305
  t164 := Tryz.underlying328
  a164 := Tryz.isAgg328
  z164 := Tryz.sizeOf328
  v164 := Tryz.zeroValue328 }
theorem sh_Builder_Extra_156 : Builder.Extra Tryz.prog sh_lays156_ren := {
  sizeBuilder := by kernel_rfl
  liesBuilder := by kernel_rfl
  t5 := Tryz.underlying5
  a5 := Tryz.isAgg5
  z5 := Tryz.sizeOf5
  v5 := Tryz.zeroValue5
  infoByte := by kernel_rfl
  cellsByte := by kernel_rfl
  sizeByte := by kernel_rfl
  neB5 := by decide }
theorem sh_strings_Join_none (a : Option Addr) (c : Nat) (sep : ByteArray) (w : World) :
    Calls Tryz.prog 93 #[.slice a 0 c, .string sep] w fun e w' => e = .returned (.string ⟨#[]⟩) ∧ w' = w := Any.strings_Join_none sh_lays156 sh_Builder_Extra_156 a c sep w
theorem sh_strings_Join (bk o c : Nat) (xs : List ByteArray) (sep : ByteArray) (w : World) (hcells : ∀ (j : Nat) x, xs[j]? = some x → w.cell? ⟨bk, o + j, none⟩ = some (.string x)) (hbk : bk < w.heap.size) (hN : xs.length ≤ 140737488355328) (hcap : xs.length ≤ c) (hlen : (Lib.join (xs.map (·.data.toList)) sep.data.toList).length ≤ 140737488355328) :
    Calls Tryz.prog 93 #[.slice (some ⟨bk, o, none⟩) xs.length c, .string sep] w fun e w' => e = .returned (.string ⟨(Lib.join (xs.map (·.data.toList)) sep.data.toList).toArray⟩) ∧ Below w.heap.size w w' := Any.strings_Join sh_lays156 sh_Builder_Extra_156 bk o c xs sep w hcells hbk hN hcap hlen
def sh_laysM171_ren : Go.Shelf.Ren := ⟨fun | 171 => 181 | 243 => 244 | 246 => 274 | 283 => 296 | 284 => 297 | 285 => 298 | 286 => 299 | 129 => 307 | 317 => 306 | 318 => 308 | 319 => 309 | 320 => 310 | 337 => 314 | 338 => 315 | n => n, fun | 3 => 3 | 9 => 9 | 2 => 2 | 4 => 4 | 171 => 342 | 0 => 0 | 53 => 298 | 37 => 253 | 5 => 5 | 173 => 345 | 212 => 361 | 51 => 357 | 20 => 20 | 213 => 362 | 46 => 316 | 232 => 370 | 233 => 371 | n => n, fun | 17 => 5 | 18 => 6 | 19 => 7 | n => n⟩
theorem sh_laysM171 : Go.Proofs.LaysM.n171 Tryz.prog sh_laysM171_ren := {
  mixed := by kernel_rfl
  f129 := Tryz.func307.trans (congrArg some (by kernel_rfl))
  f171 := Tryz.func181.trans (congrArg some (by kernel_rfl))
  f243 := Tryz.func244.trans (congrArg some (by kernel_rfl))
  f246 := Tryz.func274.trans (congrArg some (by kernel_rfl))
  f283 := Tryz.func296.trans (congrArg some (by kernel_rfl))
  f284 := Tryz.func297.trans (congrArg some (by kernel_rfl))
  f285 := Tryz.func298.trans (congrArg some (by kernel_rfl))
  f286 := Tryz.func299.trans (congrArg some (by kernel_rfl))
  f317 := Tryz.func306.trans (congrArg some (by kernel_rfl))
  f318 := Tryz.func308.trans (congrArg some (by kernel_rfl))
  f319 := Tryz.func309.trans (congrArg some (by kernel_rfl))
  f320 := Tryz.func310.trans (congrArg some (by kernel_rfl))
  f337 := Tryz.func314.trans (congrArg some (by kernel_rfl))
  f338 := Tryz.func315.trans (congrArg some (by kernel_rfl))
  t0 := Tryz.underlying0
  a0 := Tryz.isAgg0
  z0 := Tryz.sizeOf0
  v0 := Tryz.zeroValue0
  t2 := Tryz.underlying2
  a2 := Tryz.isAgg2
  z2 := Tryz.sizeOf2
  v2 := Tryz.zeroValue2
  t3 := Tryz.underlying3
  a3 := Tryz.isAgg3
  z3 := Tryz.sizeOf3
  v3 := Tryz.zeroValue3
  t4 := Tryz.underlying4
  a4 := Tryz.isAgg4
  z4 := Tryz.sizeOf4
  v4 := Tryz.zeroValue4
  t5 := Tryz.underlying5
  a5 := Tryz.isAgg5
  z5 := Tryz.sizeOf5
  v5 := Tryz.zeroValue5
  t9 := Tryz.underlying9
  a9 := Tryz.isAgg9
  z9 := Tryz.sizeOf9
  v9 := Tryz.zeroValue9
  t20 := Tryz.underlying20
  a20 := Tryz.isAgg20
  z20 := Tryz.sizeOf20
  v20 := Tryz.zeroValue20
  t37 := Tryz.underlying253
  a37 := Tryz.isAgg253
  z37 := Tryz.sizeOf253
  v37 := Tryz.zeroValue253
  t46 := Tryz.underlying316
  a46 := Tryz.isAgg316
  z46 := Tryz.sizeOf316
  v46 := Tryz.zeroValue316
  t51 := Tryz.underlying357
  a51 := Tryz.isAgg357
  z51 := Tryz.sizeOf357
  v51 := Tryz.zeroValue357
  t53 := Tryz.underlying298
  a53 := Tryz.isAgg298
  z53 := Tryz.sizeOf298
  v53 := Tryz.zeroValue298
  t171 := Tryz.underlying342
  a171 := Tryz.isAgg342
  z171 := Tryz.sizeOf342
  v171 := Tryz.zeroValue342
  t173 := Tryz.underlying345
  a173 := Tryz.isAgg345
  z173 := Tryz.sizeOf345
  v173 := Tryz.zeroValue345
  t212 := Tryz.underlying361
  a212 := Tryz.isAgg361
  z212 := Tryz.sizeOf361
  v212 := Tryz.zeroValue361
  t213 := Tryz.underlying362
  a213 := Tryz.isAgg362
  z213 := Tryz.sizeOf362
  t232 := Tryz.underlying370
  a232 := Tryz.isAgg370
  z232 := Tryz.sizeOf370
  v232 := Tryz.zeroValue370
  t233 := Tryz.underlying371
  a233 := Tryz.isAgg371
  z233 := Tryz.sizeOf371
  v233 := Tryz.zeroValue371
  g17 := by kernel_rfl
  g18 := by kernel_rfl
  g19 := by kernel_rfl
  i0 := by kernel_rfl
  i2 := by kernel_rfl
  i3 := by kernel_rfl
  i4 := by kernel_rfl
  i5 := by kernel_rfl
  i9 := by kernel_rfl
  i20 := by kernel_rfl
  i37 := by kernel_rfl
  i46 := by kernel_rfl
  i51 := by kernel_rfl
  i53 := by kernel_rfl
  i171 := by kernel_rfl
  i173 := by kernel_rfl
  i212 := by kernel_rfl
  i232 := by kernel_rfl
  i233 := by kernel_rfl
  m17 := by kernel_rfl
  m18 := by kernel_rfl
  m19 := by kernel_rfl }
theorem sh_strconv_Itoa (n : Int) (h0 : -9223372036854775808 ≤ n) (h1 : n ≤ 9223372036854775807) (w : World) (h5 : ∃ t fr, w.heap[5]? = some (.cells (Lib.pow10Tab.map fun z => Value.int .u64 z).toArray t fr)) :
    Calls Tryz.prog 181 #[.int .i64 n] w fun e w' => e = .returned (.string ⟨(Lib.itoa n).toArray⟩) ∧ ∃ k os, w' = grow (w.drewN k) os := by
  obtain ⟨t, fr, h5⟩ := h5
  refine Any.strconv_Itoa sh_laysM171 n h0 h1 w ?_
  unfold Lib.TabIs World.var?
  rw [sh_laysM171.m17]
  show (match w.heap[5]? with | some (.cells cs _ _) => some cs | _ => none) = _
  rw [h5]
def sh_laysC172_ren : Go.Shelf.Ren := ⟨fun | 172 => 191 | 244 => 251 | 245 => 252 | 247 => 279 | 279 => 280 | 280 => 281 | 281 => 282 | 282 => 283 | 287 => 300 | 316 => 301 | 171 => 181 | 205 => 302 | 321 => 311 | 322 => 312 | 243 => 244 | 246 => 274 | 283 => 296 | 284 => 297 | 285 => 298 | 286 => 299 | 129 => 307 | 317 => 306 | 318 => 308 | 319 => 309 | 320 => 310 | 337 => 314 | 338 => 315 | n => n, fun | 9 => 9 | 3 => 3 | 75 => 258 | 76 => 259 | 4 => 4 | 5 => 5 | 167 => 333 | 37 => 253 | 0 => 0 | 85 => 334 | 2 => 2 | 168 => 336 | 53 => 298 | 175 => 347 | 46 => 316 | 210 => 351 | 127 => 305 | 145 => 367 | 143 => 365 | 21 => 21 | 171 => 342 | 173 => 345 | 212 => 361 | 51 => 357 | 20 => 20 | 213 => 362 | 232 => 370 | 233 => 371 | 80 => 261 | n => n, fun | 15 => 1 | 16 => 2 | 17 => 5 | 18 => 6 | 19 => 7 | n => n⟩
theorem sh_laysC172 : Go.Proofs.LaysC.n172 Tryz.prog sh_laysC172_ren := {
  mixed := by kernel_rfl
  f129 := Tryz.func307.trans (congrArg some (by kernel_rfl))
  f171 := Tryz.func181.trans (congrArg some (by kernel_rfl))
  f172 := Tryz.func191.trans (congrArg some (by kernel_rfl))
  f205 := Tryz.func302.trans (congrArg some (by kernel_rfl))
  f243 := Tryz.func244.trans (congrArg some (by kernel_rfl))
  f244 := Tryz.func251.trans (congrArg some (by kernel_rfl))
  f245 := Tryz.func252.trans (congrArg some (by kernel_rfl))
  f246 := Tryz.func274.trans (congrArg some (by kernel_rfl))
  f247 := Tryz.func279.trans (congrArg some (by kernel_rfl))
  f279 := Tryz.func280.trans (congrArg some (by kernel_rfl))
  f280 := Tryz.func281.trans (congrArg some (by kernel_rfl))
  f281 := Tryz.func282.trans (congrArg some (by kernel_rfl))
  f282 := Tryz.func283.trans (congrArg some (by kernel_rfl))
  f283 := Tryz.func296.trans (congrArg some (by kernel_rfl))
  f284 := Tryz.func297.trans (congrArg some (by kernel_rfl))
  f285 := Tryz.func298.trans (congrArg some (by kernel_rfl))
  f286 := Tryz.func299.trans (congrArg some (by kernel_rfl))
  f287 := Tryz.func300.trans (congrArg some (by kernel_rfl))
  f316 := Tryz.func301.trans (congrArg some (by kernel_rfl))
  f317 := Tryz.func306.trans (congrArg some (by kernel_rfl))
  f318 := Tryz.func308.trans (congrArg some (by kernel_rfl))
  f319 := Tryz.func309.trans (congrArg some (by kernel_rfl))
  f320 := Tryz.func310.trans (congrArg some (by kernel_rfl))
  f321 := Tryz.func311.trans (congrArg some (by kernel_rfl))
  f322 := Tryz.func312.trans (congrArg some (by kernel_rfl))
  f337 := Tryz.func314.trans (congrArg some (by kernel_rfl))
  f338 := Tryz.func315.trans (congrArg some (by kernel_rfl))
  t0 := Tryz.underlying0
  a0 := Tryz.isAgg0
  z0 := Tryz.sizeOf0
  v0 := Tryz.zeroValue0
  t2 := Tryz.underlying2
  a2 := Tryz.isAgg2
  z2 := Tryz.sizeOf2
  v2 := Tryz.zeroValue2
  t3 := Tryz.underlying3
  a3 := Tryz.isAgg3
  z3 := Tryz.sizeOf3
  v3 := Tryz.zeroValue3
  t4 := Tryz.underlying4
  a4 := Tryz.isAgg4
  z4 := Tryz.sizeOf4
  v4 := Tryz.zeroValue4
  t5 := Tryz.underlying5
  a5 := Tryz.isAgg5
  z5 := Tryz.sizeOf5
  v5 := Tryz.zeroValue5
  t9 := Tryz.underlying9
  a9 := Tryz.isAgg9
  z9 := Tryz.sizeOf9
  v9 := Tryz.zeroValue9
  t20 := Tryz.underlying20
  a20 := Tryz.isAgg20
  z20 := Tryz.sizeOf20
  v20 := Tryz.zeroValue20
  t21 := Tryz.underlying21
  a21 := Tryz.isAgg21
  z21 := Tryz.sizeOf21
  v21 := Tryz.zeroValue21
  t37 := Tryz.underlying253
  a37 := Tryz.isAgg253
  z37 := Tryz.sizeOf253
  v37 := Tryz.zeroValue253
  t46 := Tryz.underlying316
  a46 := Tryz.isAgg316
  z46 := Tryz.sizeOf316
  v46 := Tryz.zeroValue316
  t51 := Tryz.underlying357
  a51 := Tryz.isAgg357
  z51 := Tryz.sizeOf357
  v51 := Tryz.zeroValue357
  t53 := Tryz.underlying298
  a53 := Tryz.isAgg298
  z53 := Tryz.sizeOf298
  v53 := Tryz.zeroValue298
  t75 := Tryz.underlying258
  a75 := Tryz.isAgg258
  z75 := Tryz.sizeOf258
  v75 := Tryz.zeroValue258
  t76 := Tryz.underlying259
  a76 := Tryz.isAgg259
  z76 := Tryz.sizeOf259
  v76 := Tryz.zeroValue259
  t85 := Tryz.underlying334
  a85 := Tryz.isAgg334
  z85 := Tryz.sizeOf334
  v85 := Tryz.zeroValue334
  t127 := Tryz.underlying305
  a127 := Tryz.isAgg305
  z127 := Tryz.sizeOf305
  v127 := Tryz.zeroValue305
  t143 := Tryz.underlying365
  a143 := Tryz.isAgg365
  z143 := Tryz.sizeOf365
  v143 := Tryz.zeroValue365
  t145 := Tryz.underlying367
  a145 := Tryz.isAgg367
  z145 := Tryz.sizeOf367
  v145 := Tryz.zeroValue367
  t167 := Tryz.underlying333
  a167 := Tryz.isAgg333
  z167 := Tryz.sizeOf333
  v167 := Tryz.zeroValue333
  t168 := Tryz.underlying336
  a168 := Tryz.isAgg336
  z168 := Tryz.sizeOf336
  v168 := Tryz.zeroValue336
  t171 := Tryz.underlying342
  a171 := Tryz.isAgg342
  z171 := Tryz.sizeOf342
  v171 := Tryz.zeroValue342
  t173 := Tryz.underlying345
  a173 := Tryz.isAgg345
  z173 := Tryz.sizeOf345
  v173 := Tryz.zeroValue345
  t175 := Tryz.underlying347
  a175 := Tryz.isAgg347
  z175 := Tryz.sizeOf347
  v175 := Tryz.zeroValue347
  t210 := Tryz.underlying351
  a210 := Tryz.isAgg351
  z210 := Tryz.sizeOf351
  v210 := Tryz.zeroValue351
  t212 := Tryz.underlying361
  a212 := Tryz.isAgg361
  z212 := Tryz.sizeOf361
  v212 := Tryz.zeroValue361
  t213 := Tryz.underlying362
  a213 := Tryz.isAgg362
  z213 := Tryz.sizeOf362
  t232 := Tryz.underlying370
  a232 := Tryz.isAgg370
  z232 := Tryz.sizeOf370
  v232 := Tryz.zeroValue370
  t233 := Tryz.underlying371
  a233 := Tryz.isAgg371
  z233 := Tryz.sizeOf371
  v233 := Tryz.zeroValue371
  g15 := by kernel_rfl
  g16 := by kernel_rfl
  g17 := by kernel_rfl
  g18 := by kernel_rfl
  g19 := by kernel_rfl
  t80 := Tryz.underlying261
  a80 := Tryz.isAgg261
  z80 := Tryz.sizeOf261
  v80 := Tryz.zeroValue261
  i0 := by kernel_rfl
  i2 := by kernel_rfl
  i3 := by kernel_rfl
  i4 := by kernel_rfl
  i5 := by kernel_rfl
  i9 := by kernel_rfl
  i20 := by kernel_rfl
  i21 := by kernel_rfl
  i37 := by kernel_rfl
  i46 := by kernel_rfl
  i51 := by kernel_rfl
  i53 := by kernel_rfl
  i75 := by kernel_rfl
  i76 := by kernel_rfl
  i80 := by kernel_rfl
  i85 := by kernel_rfl
  i127 := by kernel_rfl
  i143 := by kernel_rfl
  i145 := by kernel_rfl
  i167 := by kernel_rfl
  i168 := by kernel_rfl
  i171 := by kernel_rfl
  i173 := by kernel_rfl
  i175 := by kernel_rfl
  i210 := by kernel_rfl
  i212 := by kernel_rfl
  i232 := by kernel_rfl
  i233 := by kernel_rfl
  m15 := by kernel_rfl
  m16 := by kernel_rfl
  m17 := by kernel_rfl
  m18 := by kernel_rfl
  m19 := by kernel_rfl
  c0 := by kernel_rfl
  c2 := by kernel_rfl
  c3 := by kernel_rfl
  c4 := by kernel_rfl
  c5 := by kernel_rfl
  c9 := by kernel_rfl
  c20 := by kernel_rfl
  c21 := by kernel_rfl
  c37 := by kernel_rfl
  c46 := by kernel_rfl
  c51 := by kernel_rfl
  c53 := by kernel_rfl
  c75 := by kernel_rfl
  c76 := by kernel_rfl
  c80 := by kernel_rfl
  c85 := by kernel_rfl
  c127 := by kernel_rfl
  c143 := by kernel_rfl
  c145 := by kernel_rfl
  c167 := by kernel_rfl
  c168 := by kernel_rfl
  c171 := by kernel_rfl
  c173 := by kernel_rfl
  c175 := by kernel_rfl
  c210 := by kernel_rfl
  c212 := by kernel_rfl
  c213 := by kernel_rfl
  c232 := by kernel_rfl
  c233 := by kernel_rfl }
theorem sh_strconv_Atoi_ok (s : ByteArray) (hmax : s.size ≤ 9223372036854775806) (v : Int) (h : Lib.atoiAll s.data.toList = .ok v) (w : World) :
    Calls Tryz.prog 191 #[.string s] w fun e w' => e = .returned (.tuple #[.int .i64 v, .nilIface]) ∧ (w' = w ∨ ∃ t, w' = Lib.bytesWorld w 5 t) := Any.strconv_Atoi_ok sh_laysC172 s hmax v h w
theorem sh_strconv_Atoi_syntax (s : ByteArray) (hlim : s.size ≤ 281474976710656) (h : Lib.atoiAll s.data.toList = Lib.NumEnd.syntax) (ev : Value) (w : World) (hv : w.cell? ⟨1, 0, none⟩ = some ev) (hev : ev = .nilIface ∨ ∃ te pe, ev = .iface te pe) :
    Calls Tryz.prog 191 #[.string s] w fun e w' => ∃ N, e = .returned (.tuple #[.int .i64 (0), .iface 336 (.pointer (some ⟨N, 0, none⟩))]) ∧ w.heap.size ≤ N ∧ w'.heap[N]? = some (.cells #[.string ⟨#[65, 116, 111, 105]⟩, .string s, ev] 351 (0, 0)) ∧ Below w.heap.size w w' := Any.strconv_Atoi_syntax sh_laysC172 s hlim h ev w hv hev
theorem sh_strconv_Atoi_range (s : ByteArray) (hlim : s.size ≤ 281474976710656) (h : Lib.atoiAll s.data.toList = .range) (ev : Value) (w : World) (hv : w.cell? ⟨2, 0, none⟩ = some ev) (hev : ev = .nilIface ∨ ∃ te pe, ev = .iface te pe) :
    Calls Tryz.prog 191 #[.string s] w fun e w' => ∃ N, e = .returned (.tuple #[.int .i64 (Lib.atoiSat s.data.toList), .iface 336 (.pointer (some ⟨N, 0, none⟩))]) ∧ w.heap.size ≤ N ∧ w'.heap[N]? = some (.cells #[.string ⟨#[65, 116, 111, 105]⟩, .string s, ev] 351 (0, 0)) ∧ Below w.heap.size w w' := Any.strconv_Atoi_range sh_laysC172 s hlim h ev w hv hev
def sh_lays143_ren : Go.Shelf.Ren := ⟨fun | 143 => 249 | 219 => 257 | 217 => 286 | 225 => 287 | 224 => 288 | 267 => 289 | 266 => 303 | 314 => 304 | n => n, fun | 9 => 9 | 3 => 3 | 4 => 4 | 5 => 5 | 46 => 316 | 146 => 358 | 51 => 357 | n => n, fun | 1 => 0 | n => n⟩
theorem sh_lays143 : Go.Proofs.Lays.n143 Tryz.prog sh_lays143_ren := {
  mixed := by kernel_rfl
  f143 := Tryz.func249.trans (congrArg some (by kernel_rfl))
  f217 := Tryz.func286.trans (congrArg some (by kernel_rfl))
  f219 := Tryz.func257.trans (congrArg some (by kernel_rfl))
  f224 := Tryz.func288.trans (congrArg some (by kernel_rfl))
  f225 := Tryz.func287.trans (congrArg some (by kernel_rfl))
  f266 := Tryz.func303.trans (congrArg some (by kernel_rfl))
  f267 := Tryz.func289.trans (congrArg some (by kernel_rfl))
  f314 := Tryz.func304.trans (congrArg some (by kernel_rfl))
  t3 := Tryz.underlying3
  a3 := Tryz.isAgg3
  z3 := Tryz.sizeOf3
  v3 := Tryz.zeroValue3
  t4 := Tryz.underlying4
  a4 := Tryz.isAgg4
  z4 := Tryz.sizeOf4
  v4 := Tryz.zeroValue4
  t5 := Tryz.underlying5
  a5 := Tryz.isAgg5
  z5 := Tryz.sizeOf5
  v5 := Tryz.zeroValue5
  t9 := Tryz.underlying9
  a9 := Tryz.isAgg9
  z9 := Tryz.sizeOf9
  v9 := Tryz.zeroValue9
  t46 := Tryz.underlying316
  a46 := Tryz.isAgg316
  z46 := Tryz.sizeOf316
  v46 := Tryz.zeroValue316
  t51 := Tryz.underlying357
  a51 := Tryz.isAgg357
  z51 := Tryz.sizeOf357
  v51 := Tryz.zeroValue357
  t146 := Tryz.underlying358
  a146 := Tryz.isAgg358
  z146 := Tryz.sizeOf358
  v146 := Tryz.zeroValue358
  g1 := by kernel_rfl }
theorem sh_strings_Index_one (s : ByteArray) (c : UInt8) (w : World) :
    Calls Tryz.prog 249 #[.string s, .string ⟨#[c]⟩] w fun e w' => e = .returned (.int .i64 (Lib.indexByte s.data.toList c)) ∧ w' = w := Any.strings_Index_one sh_lays143 s c w
def sh_lays138_ren : Go.Shelf.Ren := ⟨fun | 138 => 248 | 195 => 277 | 218 => 278 | 143 => 249 | 219 => 257 | 217 => 286 | 225 => 287 | 224 => 288 | 267 => 289 | 266 => 303 | 314 => 304 | n => n, fun | 9 => 9 | 3 => 3 | 4 => 4 | 5 => 5 | 0 => 0 | 46 => 316 | 146 => 358 | 51 => 357 | n => n, fun | 1 => 0 | n => n⟩
theorem sh_lays138 : Go.Proofs.Lays.n138 Tryz.prog sh_lays138_ren := {
  mixed := by kernel_rfl
  f138 := Tryz.func248.trans (congrArg some (by kernel_rfl))
  f143 := Tryz.func249.trans (congrArg some (by kernel_rfl))
  f195 := Tryz.func277.trans (congrArg some (by kernel_rfl))
  f217 := Tryz.func286.trans (congrArg some (by kernel_rfl))
  f218 := Tryz.func278.trans (congrArg some (by kernel_rfl))
  f219 := Tryz.func257.trans (congrArg some (by kernel_rfl))
  f224 := Tryz.func288.trans (congrArg some (by kernel_rfl))
  f225 := Tryz.func287.trans (congrArg some (by kernel_rfl))
  f266 := Tryz.func303.trans (congrArg some (by kernel_rfl))
  f267 := Tryz.func289.trans (congrArg some (by kernel_rfl))
  f314 := Tryz.func304.trans (congrArg some (by kernel_rfl))
  t0 := Tryz.underlying0
  a0 := Tryz.isAgg0
  z0 := Tryz.sizeOf0
  v0 := Tryz.zeroValue0
  t3 := Tryz.underlying3
  a3 := Tryz.isAgg3
  z3 := Tryz.sizeOf3
  v3 := Tryz.zeroValue3
  t4 := Tryz.underlying4
  a4 := Tryz.isAgg4
  z4 := Tryz.sizeOf4
  v4 := Tryz.zeroValue4
  t5 := Tryz.underlying5
  a5 := Tryz.isAgg5
  z5 := Tryz.sizeOf5
  v5 := Tryz.zeroValue5
  t9 := Tryz.underlying9
  a9 := Tryz.isAgg9
  z9 := Tryz.sizeOf9
  v9 := Tryz.zeroValue9
  t46 := Tryz.underlying316
  a46 := Tryz.isAgg316
  z46 := Tryz.sizeOf316
  v46 := Tryz.zeroValue316
  t51 := Tryz.underlying357
  a51 := Tryz.isAgg357
  z51 := Tryz.sizeOf357
  v51 := Tryz.zeroValue357
  t146 := Tryz.underlying358
  a146 := Tryz.isAgg358
  z146 := Tryz.sizeOf358
  v146 := Tryz.zeroValue358
  g1 := by kernel_rfl }
theorem sh_strings_Count_one (s : ByteArray) (c : UInt8) (w : World) :
    Calls Tryz.prog 248 #[.string s, .string ⟨#[c]⟩] w fun e w' => e = .returned (.int .i64 (Lib.countByte s.data.toList c)) ∧ w' = w := Any.strings_Count_one sh_lays138 s c w
def sh_lays101_ren : Go.Shelf.Ren := ⟨fun | 101 => 192 | 208 => 253 | 206 => 284 | n => n, fun | 9 => 9 | 4 => 4 | 3 => 3 | n => n, fun | n => n⟩
theorem sh_lays101 : Go.Proofs.Lays.n101 Tryz.prog sh_lays101_ren := {
  mixed := by kernel_rfl
  f101 := Tryz.func192.trans (congrArg some (by kernel_rfl))
  f206 := Tryz.func284.trans (congrArg some (by kernel_rfl))
  f208 := Tryz.func253.trans (congrArg some (by kernel_rfl))
  t3 := Tryz.underlying3
  a3 := Tryz.isAgg3
  z3 := Tryz.sizeOf3
  v3 := Tryz.zeroValue3
  t4 := Tryz.underlying4
  a4 := Tryz.isAgg4
  z4 := Tryz.sizeOf4
  v4 := Tryz.zeroValue4
  t9 := Tryz.underlying9
  a9 := Tryz.isAgg9
  z9 := Tryz.sizeOf9
  v9 := Tryz.zeroValue9 }
theorem sh_strings_TrimPrefix (s p : ByteArray) (w : World) :
    Calls Tryz.prog 192 #[.string s, .string p] w fun e w' => e = .returned (.string ⟨(Lib.trimPrefix s.data.toList p.data.toList).toArray⟩) ∧ w' = w := Any.strings_TrimPrefix sh_lays101 s p w
def sh_lays221_ren : Go.Shelf.Ren := ⟨fun | 221 => 185 | 268 => 247 | 138 => 248 | 143 => 249 | 195 => 277 | 197 => 256 | 218 => 278 | 219 => 257 | 260 => 285 | 217 => 286 | 225 => 287 | 224 => 288 | 267 => 289 | 266 => 303 | 314 => 304 | n => n, fun | 9 => 9 | 3 => 3 | 31 => 158 | 4 => 4 | 0 => 0 | 105 => 310 | 21 => 21 | 5 => 5 | 46 => 316 | 119 => 353 | 139 => 356 | 138 => 355 | 146 => 358 | 51 => 357 | n => n, fun | 1 => 0 | 3 => 3 | 4 => 4 | n => n⟩
theorem sh_lays221 : Go.Proofs.Lays.n221 Tryz.prog sh_lays221_ren := {
  mixed := by kernel_rfl
  f138 := Tryz.func248.trans (congrArg some (by kernel_rfl))
  f143 := Tryz.func249.trans (congrArg some (by kernel_rfl))
  f195 := Tryz.func277.trans (congrArg some (by kernel_rfl))
  f197 := Tryz.func256.trans (congrArg some (by kernel_rfl))
  f217 := Tryz.func286.trans (congrArg some (by kernel_rfl))
  f218 := Tryz.func278.trans (congrArg some (by kernel_rfl))
  f219 := Tryz.func257.trans (congrArg some (by kernel_rfl))
  f221 := Tryz.func185.trans (congrArg some (by kernel_rfl))
  f224 := Tryz.func288.trans (congrArg some (by kernel_rfl))
  f225 := Tryz.func287.trans (congrArg some (by kernel_rfl))
  f260 := Tryz.func285.trans (congrArg some (by kernel_rfl))
  f266 := Tryz.func303.trans (congrArg some (by kernel_rfl))
  f267 := Tryz.func289.trans (congrArg some (by kernel_rfl))
  f268 := Tryz.func247.trans (congrArg some (by kernel_rfl))
  f314 := Tryz.func304.trans (congrArg some (by kernel_rfl))
  t0 := Tryz.underlying0
  a0 := Tryz.isAgg0
  z0 := Tryz.sizeOf0
  v0 := Tryz.zeroValue0
  t3 := Tryz.underlying3
  a3 := Tryz.isAgg3
  z3 := Tryz.sizeOf3
  v3 := Tryz.zeroValue3
  t4 := Tryz.underlying4
  a4 := Tryz.isAgg4
  z4 := Tryz.sizeOf4
  v4 := Tryz.zeroValue4
  t5 := Tryz.underlying5
  a5 := Tryz.isAgg5
  z5 := Tryz.sizeOf5
  v5 := Tryz.zeroValue5
  t9 := Tryz.underlying9
  a9 := Tryz.isAgg9
  z9 := Tryz.sizeOf9
  v9 := Tryz.zeroValue9
  t21 := Tryz.underlying21
  a21 := Tryz.isAgg21
  z21 := Tryz.sizeOf21
  v21 := Tryz.zeroValue21
  t31 := Tryz.underlying158
  a31 := Tryz.isAgg158
  z31 := Tryz.sizeOf158
  v31 := Tryz.zeroValue158
  t46 := Tryz.underlying316
  a46 := Tryz.isAgg316
  z46 := Tryz.sizeOf316
  v46 := Tryz.zeroValue316
  t51 := Tryz.underlying357
  a51 := Tryz.isAgg357
  z51 := Tryz.sizeOf357
  v51 := Tryz.zeroValue357
  t105 := Tryz.underlying310
  a105 := Tryz.isAgg310
  z105 := Tryz.sizeOf310
  v105 := Tryz.zeroValue310
  t119 := Tryz.underlying353
  a119 := Tryz.isAgg353
  z119 := Tryz.sizeOf353
  t138 := Tryz.underlying355
  a138 := Tryz.isAgg355
  z138 := Tryz.sizeOf355
  v138 := Tryz.zeroValue355
  t139 := Tryz.underlying356
  a139 := Tryz.isAgg356
  z139 := Tryz.sizeOf356
  v139 := Tryz.zeroValue356
  t146 := Tryz.underlying358
  a146 := Tryz.isAgg358
  z146 := Tryz.sizeOf358
  v146 := Tryz.zeroValue358
  g1 := by kernel_rfl
  g3 := by kernel_rfl
  g4 := by kernel_rfl }
end Go.Pw

set_option linter.unusedVariables false
set_option linter.unusedSimpArgs false
namespace Go.Pw
open Go Go.Lib
abbrev By := List UInt8
abbrev bs (l : By) : ByteArray := ⟨l.toArray⟩
theorem bs_size (l : By) : (bs l).size = l.length := by simp [bs, ByteArray.size]
/-- The pieces, of which the first one has begun. -/
def cutG (c : UInt8) : By → By → List By
  | acc, [] => [acc]
  | acc, x :: l => if x = c then acc :: cutG c [] l else cutG c (acc ++ [x]) l
theorem cutG_hit {c : UInt8} : ∀ {p acc r : By}, c ∉ p → cutG c acc (p ++ c :: r) = (acc ++ p) :: cutG c [] r
  | [], acc, r, _ => by simp [cutG]
  | x :: p, acc, r, h => by
    rw [List.mem_cons, not_or] at h
    rw [List.cons_append, cutG, if_neg (fun e => h.1 e.symm), cutG_hit h.2]; simp
theorem cutG_miss {c : UInt8} : ∀ {p acc : By}, c ∉ p → cutG c acc p = [acc ++ p]
  | [], acc, _ => by simp [cutG]
  | x :: p, acc, h => by
    rw [List.mem_cons, not_or] at h
    rw [cutG, if_neg (fun e => h.1 e.symm), cutG_miss h.2]; simp
theorem cutG_ne {c : UInt8} : ∀ {l acc : By}, cutG c acc l ≠ []
  | [], acc => by simp [cutG]
  | x :: l, acc => by
    rw [cutG]; split
    · simp
    · exact cutG_ne
/-- Where a byte stands first. -/
theorem ix_cases (c : UInt8) : ∀ (l : By), (indexByte l c = -1 ∧ c ∉ l) ∨ ∃ p r, l = p ++ c :: r ∧ c ∉ p ∧ indexByte l c = p.length
  | [] => .inl ⟨rfl, by simp⟩
  | b :: l => by
    by_cases h : b = c
    · subst h
      exact .inr ⟨[], l, rfl, by simp, by simp [indexByte]⟩
    · rcases ix_cases c l with ⟨h1, h2⟩ | ⟨p, r, h1, h2, h3⟩
      · exact .inl ⟨by simp [indexByte, h, h1], by simp only [List.mem_cons, not_or]; exact ⟨fun e => h e.symm, h2⟩⟩
      · refine .inr ⟨b :: p, r, by rw [h1]; rfl, by simp only [List.mem_cons, not_or]; exact ⟨fun e => h e.symm, h2⟩, ?_⟩
        have : ¬ ((p.length : Int) = -1) := by omega
        simp [indexByte, h, h3, this]
theorem index_byte (c : UInt8) : ∀ (l : By), index l [c] = indexByte l c
  | [] => rfl
  | b :: l => by
    have ih := index_byte c l
    by_cases h : b = c
    · subst h; simp [index, indexByte, List.isPrefixOf]
    · have h' : ¬ c = b := fun e => h e.symm
      have hp : List.isPrefixOf [c] (b :: l) = false := by simp [List.isPrefixOf, h']
      rw [index, indexByte, hp, ih]
      simp [h]
theorem split_cut {c : UInt8} : ∀ (n : Nat) (l : By), l.count c = n → splitK [c] 0 n l = cutG c [] l
  | 0, l, h => by
    rw [splitK, cutG_miss (List.count_eq_zero.1 h)]; simp
  | n + 1, l, h => by
    rcases ix_cases c l with ⟨_, h2⟩ | ⟨p, r, h1, h2, h3⟩
    · rw [List.count_eq_zero.2 h2] at h; omega
    · have hi : index l [c] = p.length := by rw [index_byte]; exact h3
      have e1 : l.take (p.length + 0) = p := by rw [h1]; simp
      have e2 : l.drop (p.length + 1) = r := by
        rw [h1, ← List.drop_drop, List.drop_left]; rfl
      have hc : r.count c = n := by
        rw [h1, List.count_append, List.count_cons_self, List.count_eq_zero.2 h2] at h; omega
      have hne : ((p.length : Int) == -1) = false := by
        rw [beq_eq_false_iff_ne]; omega
      rw [splitK, hi, hne]
      simp only [Bool.false_eq_true, if_false, Int.toNat_natCast, List.length_singleton]
      rw [e1, e2, split_cut n r hc, h1, cutG_hit h2]; simp
def jnG (c : UInt8) : List By → By
  | [] => []
  | [x] => x
  | x :: y :: r => x ++ c :: jnG c (y :: r)
theorem jn_cons {c : UInt8} {x : By} {r : List By} (h : r ≠ []) : jnG c (x :: r) = x ++ c :: jnG c r := by
  cases r with
  | nil => exact absurd rfl h
  | cons y r => rfl
theorem join_jn {c : UInt8} : ∀ (l : List By), join l [c] = jnG c l
  | [] => rfl
  | x :: r => by
    have key : ∀ (r : List By) (x : By), x ++ joinTail [c] r = jnG c (x :: r) := fun r => by
      induction r with
      | nil => intro x; simp [joinTail, jnG]
      | cons y r ih =>
        intro x
        rw [jn_cons (by simp), ← ih y]
        simp [joinTail]
    rw [join_cons, key]
/-- What was joined comes apart. -/
theorem cut_jn {c : UInt8} : ∀ {l : List By}, l ≠ [] → (∀ x ∈ l, c ∉ x) → cutG c [] (jnG c l) = l
  | [], h, _ => absurd rfl h
  | [x], _, h => by rw [jnG, cutG_miss (h x (by simp))]; rfl
  | x :: y :: r, _, h => by
    rw [jn_cons (by simp), cutG_hit (h x (by simp)), cut_jn (by simp) (fun z hz => h z (List.mem_cons_of_mem _ hz))]; rfl
abbrev i64P (n : Int) : Prop := -9223372036854775808 ≤ n ∧ n ≤ 9223372036854775807
/-- A digit. -/
abbrev isDg (b : UInt8) : Prop := 48 ≤ b.toNat ∧ b.toNat ≤ 57
theorem dg_nat {d : Nat} (h : d < 10) : (UInt8.ofNat (48 + d)).toNat = 48 + d := UInt8.toNat_ofNat_of_lt (show 48 + d < 256 by omega)
theorem dec_big {u : Nat} (h : ¬ u < 10) : decDigits u = decDigits (u / 10) ++ [UInt8.ofNat (48 + u % 10)] := by rw [decDigits, dif_neg h]
theorem dec_ne (u : Nat) : decDigits u ≠ [] := by
  by_cases h : u < 10
  · rw [decDigits_one h]; simp
  · rw [dec_big h]; simp
theorem dec_dg (u : Nat) : ∀ b ∈ decDigits u, isDg b := by
  induction u using Nat.strongRecOn with
  | _ u ih =>
    intro b hb
    by_cases h : u < 10
    · rw [decDigits_one h, List.mem_singleton] at hb; subst hb
      have := dg_nat h; omega
    · rw [dec_big h, List.mem_append, List.mem_singleton] at hb
      rcases hb with h1 | h1
      · exact ih (u / 10) (by omega) b h1
      · subst h1
        have := dg_nat (d := u % 10) (by omega); omega
/-- The first digit of a number is not 0, but for 0. -/
theorem dec_head {u : Nat} (h0 : 0 < u) : ∃ b r, decDigits u = b :: r ∧ b.toNat ≠ 48 := by
  induction u using Nat.strongRecOn with
  | _ u ih =>
    by_cases h : u < 10
    · rw [decDigits_one h]
      exact ⟨_, _, rfl, by rw [dg_nat h]; omega⟩
    · obtain ⟨b, r, h1, h2⟩ := ih (u / 10) (by omega) (by omega)
      rw [dec_big h, h1]
      exact ⟨b, _, rfl, h2⟩
/-- What digits spell, behind a number. -/
def dgS (a : Nat) (b : UInt8) : Nat := 10 * a + (b.toNat - 48)
def dgV (acc : Nat) (l : List UInt8) : Nat := l.foldl dgS acc
theorem dgV_nil (acc : Nat) : dgV acc [] = acc := by rw [dgV, List.foldl_nil]
theorem dgV_cons (acc : Nat) (b : UInt8) (l : List UInt8) : dgV acc (b :: l) = dgV (10 * acc + (b.toNat - 48)) l := by rw [dgV, List.foldl_cons, dgS, dgV]
theorem dgV_app (b : UInt8) (l : List UInt8) : ∀ acc : Nat, dgV acc (l ++ [b]) = 10 * dgV acc l + (b.toNat - 48) := by
  induction l with
  | nil => intro acc; rw [List.nil_append, dgV_cons, dgV_nil, dgV_nil]
  | cons x l ih =>
    intro acc
    rw [List.cons_append, dgV_cons, dgV_cons]
    exact ih _
theorem dgV_dec (u : Nat) : dgV 0 (decDigits u) = u := by
  induction u using Nat.strongRecOn with
  | _ u ih =>
    by_cases h : u < 10
    · rw [decDigits_one h, dgV_cons, dgV_nil, dg_nat h]; omega
    · rw [dec_big h, dgV_app, ih (u / 10) (by omega), dg_nat (by omega)]; omega
theorem dgV_le (l : List UInt8) : ∀ acc : Nat, acc * 10 ^ l.length ≤ dgV acc l := by
  induction l with
  | nil => intro acc; rw [dgV_nil]; simp
  | cons b l ih =>
    intro acc
    have h := ih (10 * acc + (b.toNat - 48))
    rw [dgV_cons, List.length_cons, Nat.pow_succ]
    generalize 10 ^ l.length = P at *
    have e : acc * (P * 10) = 10 * acc * P := by
      rw [Nat.mul_comm P 10, ← Nat.mul_assoc, Nat.mul_comm acc 10]
    rw [e]
    exact Nat.le_trans (Nat.mul_le_mul_right _ (Nat.le_add_right _ _)) h
/-- Digits, of which the first one is not 0 unless it is alone, are the numeral of what they spell. -/
theorem dec_dgV : ∀ (n : Nat) (l : By), l.length = n → l ≠ [] → (∀ b ∈ l, isDg b) → (l.length = 1 ∨ ∃ b r, l = b :: r ∧ b.toNat ≠ 48) → decDigits (dgV 0 l) = l := by
  intro n
  induction n with
  | zero => intro l hl hne _ _; exact absurd (List.length_eq_zero_iff.1 hl) hne
  | succ n ih =>
    intro l hl hne hd hh
    obtain ⟨p, b, rfl⟩ : ∃ p b, l = p ++ [b] := ⟨l.dropLast, l.getLast hne, (List.dropLast_concat_getLast hne).symm⟩
    have hb := hd b (by simp)
    have hp : ∀ x ∈ p, isDg x := fun x hx => hd x (by simp [hx])
    rw [dgV_app]
    have hof : UInt8.ofNat (48 + (b.toNat - 48)) = b := by
      rw [show 48 + (b.toNat - 48) = b.toNat by omega]; exact UInt8.ofNat_toNat
    by_cases hpe : p = []
    · subst hpe
      rw [dgV_nil, Nat.mul_zero, Nat.zero_add, decDigits_one (by omega), hof]; rfl
    · have hpl : p.length = n := by simp at hl; omega
      obtain ⟨x, r, hx⟩ : ∃ x r, p = x :: r := by cases p with | nil => exact absurd rfl hpe | cons x r => exact ⟨x, r, rfl⟩
      have hx0 : x.toNat ≠ 48 := by
        rcases hh with h | ⟨y, s, h1, h2⟩
        · simp [hx] at h
        · rw [hx] at h1; simp at h1; rw [h1.1]; exact h2
      have hpos : 0 < dgV 0 p := by
        rw [hx, dgV_cons]
        have h1 := dgV_le r (10 * 0 + (x.toNat - 48))
        have h2 := hp x (by simp [hx])
        have h3 : 0 < 10 ^ r.length := Nat.pos_of_ne_zero (by simp)
        have h4 : 0 < (10 * 0 + (x.toNat - 48)) * 10 ^ r.length := Nat.mul_pos (by omega) h3
        omega
      rw [dec_big (by omega), show (10 * dgV 0 p + (b.toNat - 48)) / 10 = dgV 0 p by omega, show (10 * dgV 0 p + (b.toNat - 48)) % 10 = b.toNat - 48 by omega, hof,
        ih p hpl hpe hp (.inr ⟨x, r, hx, hx0⟩)]
theorem itoa_neg {n : Int} (h : n < 0) : itoa n = 45 :: decDigits n.natAbs := by rw [itoa, if_pos h]
theorem itoa_nn {n : Int} (h : 0 ≤ n) : itoa n = decDigits n.toNat := by rw [itoa, if_neg (by omega)]
theorem itoa_ne (n : Int) : itoa n ≠ [] := by
  rw [itoa]; split
  · simp
  · exact dec_ne _
theorem itoa_ch {n : Int} : ∀ b ∈ itoa n, b = 45 ∨ isDg b := fun b hb => by
  rw [itoa] at hb
  split at hb
  · rcases List.mem_cons.1 hb with h | h
    · exact .inl h
    · exact .inr (dec_dg _ b h)
  · exact .inr (dec_dg _ b hb)
theorem itoa_no {n : Int} {c : UInt8} (h : c ≠ 45 ∧ ¬ isDg c) : c ∉ itoa n := fun hc => by
  rcases itoa_ch c hc with h1 | h1
  · exact h.1 h1
  · exact h.2 h1
theorem parse_dg : ∀ (l : By) (acc : Nat), (∀ b ∈ l, isDg b) → dgV acc l < 18446744073709551616 → parseUint10 acc l = .ok (dgV acc l)
  | [], acc, _, _ => rfl
  | b :: l, acc, h, hlt => by
    have hb := h b (by simp)
    have hle := dgV_le l (10 * acc + (b.toNat - 48))
    have h1 : 1 ≤ 10 ^ l.length := Nat.one_le_pow _ _ (by decide)
    have h2 := Nat.mul_le_mul_left (10 * acc + (b.toNat - 48)) h1
    rw [dgV_cons] at hlt
    rw [parseUint10, if_pos hb, if_neg (by omega), if_neg (by omega), Nat.mul_comm acc 10, parse_dg l _ (fun x hx => h x (by simp [hx])) hlt, dgV_cons]
/-- The numeral of a number is parsed. -/
theorem atoi_itoa {n : Int} (h : i64P n) : atoiAll (itoa n) = .ok n := by
  by_cases hn : n < 0
  · have hp := parse_dg (decDigits n.natAbs) 0 (dec_dg _) (by rw [dgV_dec]; omega)
    rw [dgV_dec] at hp
    rw [itoa_neg hn, atoiAll]
    have e45 : (45 : UInt8).toNat = 45 := rfl
    simp only [e45, or_true, if_true, parseMag, if_neg (dec_ne _), hp, not_true, false_and, if_false, true_and]
    rw [if_neg (by omega)]
    congr 1; omega
  · obtain ⟨c, r, hc⟩ : ∃ c r, itoa n = c :: r := by
      cases hi : itoa n with
      | nil => exact absurd hi (itoa_ne n)
      | cons c r => exact ⟨c, r, rfl⟩
    have hdc : decDigits n.toNat = c :: r := by rw [← itoa_nn (by omega)]; exact hc
    have hcd := dec_dg n.toNat c (by rw [hdc]; simp)
    have hcd1 : 48 ≤ c.toNat := hcd.1
    have hcd2 : c.toNat ≤ 57 := hcd.2
    have hp := parse_dg (decDigits n.toNat) 0 (dec_dg _) (by rw [dgV_dec]; omega)
    rw [dgV_dec, hdc] at hp
    rw [hc, atoiAll]
    have n1 : ¬ (c.toNat = 43 ∨ c.toNat = 45) := by omega
    have n2 : ¬ c.toNat = 45 := by omega
    have n3 : ¬ c.toNat = 43 := by omega
    simp only [n2, n3, or_self, if_false, parseMag, if_neg (List.cons_ne_nil c r), hp, not_false_iff, true_and, false_and]
    rw [if_neg (by omega)]
    congr 1; omega
end Go.Pw

set_option linter.unusedVariables false
set_option linter.unusedSimpArgs false
namespace Go.Pw
open Go Go.Lib
/-- Digits of a number: at most so many, the first one not 0 (unless that is permitted). -/
abbrev dgOk (r : By) (d : Int) (z : Prop) : Prop := r ≠ [] ∧ (r.length : Int) ≤ d ∧ (r.head? = some 48 → z) ∧ ∀ b ∈ r, isDg b
/-- The number that a string is. -/
def numV (s : By) (d : Int) : Option Int :=
  if s.head? = some 45 then (if dgOk s.tail d False then some (-(dgV 0 s.tail : Int)) else none)
  else if dgOk s d (s.length = 1) then some (dgV 0 s : Int) else none
theorem numV_neg {r : By} {d : Int} : numV (45 :: r) d = if dgOk r d False then some (-(dgV 0 r : Int)) else none := by
  rw [numV, if_pos (by rfl)]; rfl
theorem pow18 {k : Nat} {d : Int} (hd : d ≤ 18) (hk : (k : Int) ≤ d) : (10 : Nat) ^ k ≤ 1000000000000000000 := by
  have : k ≤ 18 := by omega
  exact Nat.le_trans (Nat.pow_le_pow_right (by decide) this) (by decide)
theorem head_dec {u : Nat} : (decDigits u).head? = some 48 → u = 0 := fun h => by
  refine Decidable.byContradiction fun h0 => ?_
  obtain ⟨b, r, h1, h2⟩ := dec_head (u := u) (by omega)
  rw [h1] at h
  simp only [List.head?_cons, Option.some.injEq] at h
  rw [h] at h2; exact h2 rfl
theorem head_n45 {u : Nat} : (decDigits u).head? ≠ some 45 := fun h => by
  cases hd : decDigits u with
  | nil => exact dec_ne u hd
  | cons b r =>
    rw [hd] at h
    simp only [List.head?_cons, Option.some.injEq] at h
    have := dec_dg u b (by rw [hd]; simp)
    rw [h] at this; revert this; decide
theorem dec0 : decDigits 0 = [48] := by rw [decDigits_one (by decide)]; rfl
theorem numV_iff {s : By} {d n : Int} (hd : d ≤ 18) : numV s d = some n ↔ s = itoa n ∧ ((decDigits n.natAbs).length : Int) ≤ d := by
  constructor
  · intro h
    rw [numV] at h
    split at h
    · rename_i h45
      obtain ⟨r, rfl⟩ : ∃ r, s = 45 :: r := by
        cases s with
        | nil => simp at h45
        | cons b r => simp only [List.head?_cons, Option.some.injEq] at h45; exact ⟨r, by rw [h45]⟩
      split at h
      · rename_i hok
        simp only [List.tail_cons] at hok h
        obtain ⟨h1, h2, h3, h4⟩ := hok
        simp only [Option.some.injEq] at h
        have hdec : decDigits (dgV 0 r) = r := by
          refine dec_dgV _ r rfl h1 h4 (.inr ?_)
          cases r with
          | nil => exact absurd rfl h1
          | cons b r =>
            refine ⟨b, r, rfl, fun hb => h3 ?_⟩
            simp only [List.head?_cons, Option.some.injEq]
            exact UInt8.toNat_inj.1 (by rw [hb]; rfl)
        have hpos : 0 < dgV 0 r := by
          refine Nat.pos_of_ne_zero fun h0 => h3 ?_
          rw [h0, dec0] at hdec; rw [← hdec]; rfl
        have e : n.natAbs = dgV 0 r := by omega
        rw [itoa_neg (by omega), e, hdec]
        exact ⟨rfl, h2⟩
      · cases h
    · split at h
      · rename_i hok
        obtain ⟨h1, h2, h3, h4⟩ := hok
        simp only [Option.some.injEq] at h
        have hdec : decDigits (dgV 0 s) = s := by
          refine dec_dgV _ s rfl h1 h4 ?_
          by_cases hh : s.head? = some 48
          · exact .inl (h3 hh)
          · right
            cases s with
            | nil => exact absurd rfl h1
            | cons b r =>
              refine ⟨b, r, rfl, fun hb => hh ?_⟩
              simp only [List.head?_cons, Option.some.injEq]
              exact UInt8.toNat_inj.1 (by rw [hb]; rfl)
        have e : n.natAbs = dgV 0 s := by omega
        rw [itoa_nn (by omega), show n.toNat = dgV 0 s by omega, e, hdec]
        exact ⟨rfl, h2⟩
      · cases h
  · rintro ⟨rfl, h2⟩
    by_cases hn : n < 0
    · have h := numV_neg (r := decDigits n.natAbs) (d := d)
      rw [if_pos ⟨dec_ne _, h2, fun h => by have := head_dec h; omega, dec_dg _⟩, dgV_dec] at h
      rw [itoa_neg hn, h]
      congr 1; omega
    · have en : n.toNat = n.natAbs := by omega
      rw [itoa_nn (by omega), en, numV, if_neg head_n45, if_pos ⟨dec_ne _, h2, fun h => (congrArg (fun u => (decDigits u).length) (head_dec h)).trans (congrArg List.length dec0), dec_dg _⟩, dgV_dec, show ((n.natAbs : Nat) : Int) = n by omega]
theorem numV_i64 {s : By} {d n : Int} (hd : d ≤ 18) (h : numV s d = some n) : i64P n ∧ n.natAbs < 1000000000000000000 := by
  obtain ⟨_, h2⟩ := (numV_iff hd).1 h
  have h3 := lt_pow_nDigits n.natAbs
  rw [← decDigits_length] at h3
  have h4 := pow18 hd h2
  exact ⟨by constructor <;> omega, by omega⟩
end Go.Pw

set_option linter.unusedSimpArgs false
set_option linter.unusedVariables false
set_option maxRecDepth 20000
namespace Go.Pw
open Go Go.RowKit Go.Lib Go.Sort
open Go.Proofs
/-- A string; strings. -/
abbrev svD (l : By) : D := .v (.string (bs l))
abbrev sv (l : By) : V := .c (.d (svD l))
abbrev rS (l : By) : List D := [svD l]
abbrev sts (l : List By) : C := slv 1 rS [] l
/-- The result of Atoi. -/
abbrev atV (s : By) : V := match atoiAll s with
  | .ok v => .tup [vi .i64 v, .c (.d (.v .nilIface))]
  | Lib.NumEnd.syntax => .tup [vi .i64 0, .c .er]
  | .range => .tup [vi .i64 (atoiSat s), .c .er]
theorem VEq.str {a b : ByteArray} (h : a = b) : VEq (.c (.d (.v (.string a)))) (.c (.d (.v (.string b)))) := by subst h; exact .refl _
theorem CEq.str {a b : ByteArray} (h : a = b) : CEq (.d (.v (.string a))) (.d (.v (.string b))) := by subst h; exact .refl _
theorem RepV.vv {Γ : Cx} {w : World} {x u : Value} (h : RepV Γ w (.c (.d (.v x))) u) : u = x := by
  cases h with | c _ _ h => cases h; rfl
theorem RepV.dv {Γ : Cx} {w : World} {x : Value} (h : one x = true) : RepV Γ w (.c (.d (.v x))) x := .c _ _ (.v _ h)
theorem below_sh (w : World) (k : Nat) (os : Array Obj) : Below w.heap.size w (grow (w.drewN k) os) :=
  ⟨rfl, rfl, rfl, by show w.heap.size ≤ (w.heap ++ os).size; rw [Array.size_append]; omega, fun j hj => Array.getElem?_append_left hj⟩
theorem C181 {n : Int} : i64P n → PFD Tryz.prog 181 [vi .i64 n] (sv (itoa n)) := fun hn => by
  refine pfd_below Tryz.call181 fun Γ w us hst hr => ?_
  obtain ⟨u, rfl, hu⟩ := hr.one
  cases hu.vv
  obtain ⟨W0, ⟨⟨t, fr, ht⟩, _⟩, _, hb⟩ := hst.lay.cell
  refine (sh_strconv_Itoa n hn.1 hn.2 w ⟨t, fr, (hb 5 (Array.getElem?_eq_some_iff.1 ht).1).trans ht⟩).mono ?_
  rintro e w' ⟨rfl, k, os, rfl⟩
  exact ⟨_, rfl, below_sh w k os, RepV.dv rfl⟩
theorem RepV.pair {Γ : Cx} {w : World} {a b : V} {x y : Value} (h1 : RepV Γ w a x) (h2 : RepV Γ w b y) : RepV Γ w (.tup [a, b]) (.tuple #[x, y]) := by
  refine .tup _ _ rfl fun i v u hv hu => ?_
  match i, hv, hu with
  | 0, hv, hu => cases hv; cases hu; exact h1
  | 1, hv, hu => cases hv; cases hu; exact h2
  | i + 2, hv, hu => cases hv
theorem C191 {s : By} : s.length ≤ 1000000 → PFD Tryz.prog 191 [sv s] (atV s) := fun hs => by
  refine pfd_below Tryz.call191 fun Γ w us hst hr => ?_
  obtain ⟨u, rfl, hu⟩ := hr.one
  cases hu.vv
  obtain ⟨W0, ⟨_, ⟨e3, h3, k3⟩, ⟨e4, h4, k4⟩⟩, hc, _⟩ := hst.lay.cell
  have hsz := bs_size s
  unfold atV
  match ha : atoiAll s with
  | .ok v =>
    refine (sh_strconv_Atoi_ok (bs s) (by omega) v ha w).mono ?_
    rintro e w' ⟨rfl, h⟩
    refine ⟨_, rfl, ?_, RepV.pair (RepV.dv rfl) (RepV.dv rfl)⟩
    rcases h with rfl | ⟨t, rfl⟩
    · exact Below.refl _ _
    · exact bytesWorld_below w 5 t
  | Lib.NumEnd.syntax =>
    refine (sh_strconv_Atoi_syntax (bs s) (by omega) ha e3 w (hc _ _ h3) k3).mono ?_
    rintro e w' ⟨N, rfl, _, _, hB⟩
    exact ⟨_, rfl, hB, RepV.pair (RepV.dv rfl) (.c _ _ ⟨_, _, rfl⟩)⟩
  | .range =>
    refine (sh_strconv_Atoi_range (bs s) (by omega) ha e4 w (hc _ _ h4) k4).mono ?_
    rintro e w' ⟨N, rfl, _, _, hB⟩
    exact ⟨_, rfl, hB, RepV.pair (RepV.dv rfl) (.c _ _ ⟨_, _, rfl⟩)⟩
theorem RepV.strs {Γ : Cx} {w : World} {l : List By} {u : Value} (h : RepV Γ w (.c (sts l)) u) : (∃ A c, u = .slice A 0 c ∧ l = []) ∨ ∃ b o c, u = .slice (some ⟨b, o, none⟩) l.length c ∧ l.length ≤ c ∧ Γ.I b ∧ ∀ j x, l[j]? = some x → w.cell? ⟨b, o + j, none⟩ = some (.string (bs x)) := by
  cases h with | c _ _ h =>
  replace h : RepD Γ.I w (.sl 1 l.length fun i => rS (l.getD i [])) u := h
  generalize hn : l.length = n at h
  cases h with
  | slE _ _ A c => exact .inl ⟨A, c, rfl, List.length_eq_zero_iff.1 hn⟩
  | sl _ _ _ ad c U hnc hI hs hc hr =>
    have key : ∀ j x, l[j]? = some x → w.cell? (ad.add j) = some (.string (bs x)) := fun j x hx => by
      have hj : j < n := by rw [← hn]; exact (List.getElem?_eq_some_iff.1 hx).1
      have h1 := hc j 0 (svD (l.getD j [])) hj rfl
      have h2 := hr j 0 (svD (l.getD j [])) hj rfl
      have e : l.getD j [] = x := by rw [List.getD, hx]; rfl
      rw [e] at h2
      rw [Nat.mul_one, Nat.add_zero] at h1
      rw [h1]
      revert h2; generalize U j 0 = y; intro h2
      cases h2; rfl
    by_cases h0 : l = []
    · subst h0; cases hn; exact .inl ⟨_, _, rfl, rfl⟩
    · obtain ⟨b, o, sp⟩ := ad
      have hx : ∃ x, l[0]? = some x := by cases l with | nil => exact absurd rfl h0 | cons x r => exact ⟨x, rfl⟩
      obtain ⟨x, hx⟩ := hx
      have h1 := key 0 x hx
      have hsp : sp = none := by
        cases sp with
        | none => rfl
        | some q =>
          simp only [World.cell?, Addr.add] at h1
          split at h1
          · simp at h1
          · cases h1
      subst hsp
      exact .inr ⟨b, o, c, rfl, hnc, hI, fun j x hx => by
        have h2 := key j x hx
        have e : (Addr.mk b o none).add j = ⟨b, o + j, none⟩ := by
          unfold Addr.add
          split
          · rename_i h0; subst h0; rfl
          · rfl
        rw [e] at h2; exact h2⟩
theorem C93 {l : List By} {c : UInt8} : (l.length ≤ 1000000 ∧ (jnG c l).length ≤ 1000000000) → PFD Tryz.prog 93 [.c (sts l), .c (.d (.v (.string ⟨#[c]⟩)))] (sv (jnG c l)) := fun ⟨hl, hj⟩ => by
  refine pfd_below Tryz.call93 fun Γ w us hst hr => ?_
  obtain ⟨u, v, rfl, hu, hv⟩ := hr.two
  cases hv.vv
  rcases hu.strs with ⟨A, cc, rfl, rfl⟩ | ⟨b, o, cc, rfl, hcc, hI, hcell⟩
  · refine (sh_strings_Join_none A cc ⟨#[c]⟩ w).mono ?_
    rintro e w' ⟨rfl, rfl⟩
    exact ⟨_, rfl, Below.refl _ _, RepV.dv rfl⟩
  · have e1 : ((l.map bs).map (·.data.toList)) = l := by
      rw [List.map_map]
      exact (List.map_congr_left (fun x _ => by simp [bs])).trans (List.map_id l)
    have e2 : Lib.join ((l.map bs).map (·.data.toList)) (ByteArray.mk #[c]).data.toList = jnG c l := by rw [e1]; exact join_jn l
    have h := sh_strings_Join b o cc (l.map bs) ⟨#[c]⟩ w (fun j x hx => by
      rw [List.getElem?_map, Option.map_eq_some_iff] at hx
      obtain ⟨y, hy, rfl⟩ := hx
      exact hcell j y hy) (hst.im b hI) (by rw [List.length_map]; omega) (by rw [List.length_map]; exact hcc) (by rw [e2]; omega)
    rw [e2, List.length_map] at h
    refine h.mono ?_
    rintro e w' ⟨rfl, hB⟩
    exact ⟨_, rfl, hB, RepV.dv rfl⟩
end Go.Pw

set_option linter.unusedVariables false
set_option linter.unusedSimpArgs false
namespace Go.Pw
open Go Go.RowKit
theorem i64_P {n : Int} (h : i64 n) : i64P n := by
  simp only [i64, IntKind.has, IntKind.min, IntKind.max, IntKind.signed, IntKind.bits, Bool.and_eq_true, decide_eq_true_eq] at h
  simp at h
  exact ⟨by omega, by omega⟩
end Go.Pw

set_option linter.unusedSimpArgs false
set_option linter.unusedVariables false
namespace Go.Pw
open Go
theorem mbd {a b A B : Int} (ha : -A ≤ a ∧ a ≤ A) (hb : -B ≤ b ∧ b ≤ B) : -(A * B) ≤ a * b ∧ a * b ≤ A * B := by
  have hA : 0 ≤ A := by omega
  have hB : 0 ≤ B := by omega
  have h : (a * b).natAbs ≤ (A * B).natAbs := by
    rw [Int.natAbs_mul, Int.natAbs_mul]
    exact Nat.mul_le_mul (by omega) (by omega)
  have : 0 ≤ A * B := Int.mul_nonneg hA hB
  omega
theorem sq_nonneg (a : Int) : 0 ≤ a * a := by
  rcases Int.le_total 0 a with h | h
  · exact Int.mul_nonneg h h
  · have := Int.mul_nonneg (show 0 ≤ -a by omega) (show 0 ≤ -a by omega)
    rwa [Int.neg_mul_neg] at this
/-- An error unless. -/
def unb : Bool → Int → Int
  | true, _ => 0
  | false, e => e
abbrev unl (p : Prop) [Decidable p] (e : Int) : Int := unb (decide p) e
theorem unl_eq {p : Prop} [Decidable p] {e : Int} : unl p e = if p then 0 else e := by
  by_cases h : p <;> simp [unl, unb, h]
theorem unb_eq {b : Bool} {e : Int} : unb b e = if b = true then 0 else e := by cases b <;> rfl
/-- The first one that is not 0. -/
def fstE : List Int → Int
  | [] => 0
  | e :: l => if e = 0 then fstE l else e
theorem fstE_drop (l : List Int) (k : Nat) (h : k < l.length) : fstE (l.drop k) = if l.getD k 0 = 0 then fstE (l.drop (k + 1)) else l.getD k 0 := by
  rw [List.drop_eq_getElem_cons h, fstE, List.getD_eq_getElem?_getD, List.getElem?_eq_getElem h]
  rfl
theorem floor_eq {n b : Int} (hb : 0 < b) : (if n.tmod b < 0 then n.tdiv b - 1 else n.tdiv b) = n / b := by
  have h1 := Int.tmod_add_mul_tdiv n b
  have h2 := Int.emod_add_mul_ediv n b
  have h3 := Int.emod_nonneg n (show b ≠ 0 by omega)
  have h4 := Int.emod_lt_of_pos n hb
  have h5 : n.tmod b < b := Int.tmod_lt_of_pos n hb
  have h6 : -b < n.tmod b := by
    have := Int.natAbs_tmod n b
    have h7 : (n.natAbs % b.natAbs) < b.natAbs := Nat.mod_lt _ (by omega)
    omega
  split
  · refine Int.eq_of_mul_eq_mul_left (show b ≠ 0 by omega) ?_
    have h7 : b * (n / b) - b * (n.tdiv b - 1) = n.tmod b + b - n % b := by rw [Int.mul_sub]; omega
    have h8 : b * (n / b) - b * (n.tdiv b - 1) = b * (n / b - (n.tdiv b - 1)) := by rw [← Int.mul_sub]
    rw [h8] at h7
    have h9 : n / b - (n.tdiv b - 1) = 0 := by
      rcases Int.lt_trichotomy (n / b - (n.tdiv b - 1)) 0 with h | h | h
      · have := Int.mul_le_mul_of_nonneg_left (show n / b - (n.tdiv b - 1) ≤ -1 by omega) (show 0 ≤ b by omega); omega
      · exact h
      · have := Int.mul_le_mul_of_nonneg_left (show 1 ≤ n / b - (n.tdiv b - 1) by omega) (show 0 ≤ b by omega); omega
    rw [show n.tdiv b - 1 = n / b by omega]
  · have h7 : b * (n / b) - b * n.tdiv b = n.tmod b - n % b := by omega
    rw [← Int.mul_sub] at h7
    rcases Int.lt_trichotomy (n / b - n.tdiv b) 0 with h | h | h
    · have := Int.mul_le_mul_of_nonneg_left (show n / b - n.tdiv b ≤ -1 by omega) (show 0 ≤ b by omega); omega
    · omega
    · have := Int.mul_le_mul_of_nonneg_left (show 1 ≤ n / b - n.tdiv b by omega) (show 0 ≤ b by omega); omega
theorem mod_eq {n b : Int} (hb : 0 < b) : (if n.tmod b < 0 then n.tmod b + b else n.tmod b) = n % b := by
  have h1 := Int.tmod_add_mul_tdiv n b
  have h2 := Int.emod_add_mul_ediv n b
  have h3 := floor_eq (n := n) hb
  split
  · rename_i h; rw [if_pos h] at h3; rw [← h3, Int.mul_sub] at h2; omega
  · rename_i h; rw [if_neg h] at h3; rw [← h3] at h2; omega
abbrev Md (n : Int) : Prop := -4611686018427387904 ≤ n ∧ n ≤ 4611686018427387904
theorem tmod_bd {n b : Int} (hb : 0 < b) : -b < n.tmod b ∧ n.tmod b < b := by
  have h5 : n.tmod b < b := Int.tmod_lt_of_pos n hb
  have := Int.natAbs_tmod n b
  have h7 : (n.natAbs % b.natAbs) < b.natAbs := Nat.mod_lt _ (by omega)
  omega
theorem ediv_bd {a b M : Int} (hb : 0 < b) (h : -M ≤ a ∧ a ≤ M) : -M ≤ a / b ∧ a / b ≤ M := by
  constructor
  · have := Int.le_ediv_of_mul_le (c := b) (a := -M) (b := a) hb (by
      have h2 : M * 1 ≤ M * b := Int.mul_le_mul_of_nonneg_left (by omega) (by omega)
      rw [Int.neg_mul]; omega)
    exact this
  · have h2 : M * 1 ≤ M * b := Int.mul_le_mul_of_nonneg_left (by omega) (by omega)
    exact Int.ediv_le_of_le_mul hb (by omega)
abbrev ceilI (n b : Int) : Int := -(-n / b)
theorem ext_getD {α : Type} (d : α) {l m : List α} (hl : l.length = m.length) (h : ∀ i, i < l.length → l.getD i d = m.getD i d) : l = m := by
  refine List.ext_getElem hl fun i h1 h2 => ?_
  have := h i h1
  simpa [List.getD_eq_getElem?_getD, h1, h2] using this
theorem pair_eq {p q : Int × Int} : (decide (p.1 = q.1) && decide (p.2 = q.2)) = decide (p = q) := by
  rw [Bool.eq_iff_iff]; simp [Prod.ext_iff]
/-- The root, bit by bit: k bits are left. -/
def rt : Nat → Int → Int → Int
  | 0, r, _ => r
  | k + 1, r, n => if (r + 2 ^ k) * (r + 2 ^ k) ≤ n then rt k (r + 2 ^ k) n else rt k r n
theorem rt_spec (n : Int) : ∀ (k : Nat) (r : Int), 0 ≤ r → r * r ≤ n → n < (r + 2 ^ k) * (r + 2 ^ k) → 0 ≤ rt k r n ∧ rt k r n * rt k r n ≤ n ∧ n < (rt k r n + 1) * (rt k r n + 1)
  | 0, r, h0, h1, h2 => ⟨h0, h1, by simpa [rt] using h2⟩
  | k + 1, r, h0, h1, h2 => by
    have hp : (0 : Int) < 2 ^ k := Int.pow_pos (by omega)
    have e : (2 : Int) ^ (k + 1) = 2 ^ k + 2 ^ k := by rw [Int.pow_succ]; omega
    rw [rt]
    split
    · rename_i h
      refine rt_spec n k _ (by omega) h ?_
      rw [Int.add_assoc, ← e]; exact h2
    · rename_i h
      exact rt_spec n k r h0 h1 (by omega)
theorem root_uniq {n r s : Int} (hr : 0 ≤ r) (h1 : r * r ≤ n) (h2 : n < (r + 1) * (r + 1)) (hs : 0 ≤ s) (h3 : s * s ≤ n) (h4 : n < (s + 1) * (s + 1)) : r = s := by
  rcases Int.lt_trichotomy r s with h | h | h
  · have := Int.mul_le_mul (show r + 1 ≤ s by omega) (show r + 1 ≤ s by omega) (by omega) hs; omega
  · exact h
  · have := Int.mul_le_mul (show s + 1 ≤ r by omega) (show s + 1 ≤ r by omega) (by omega) hr; omega
/-- The root of a number from 0 to 2^60, rounded down. -/
def isq (n : Int) : Int := rt 31 0 n
theorem isq_spec {n : Int} (h : 0 ≤ n ∧ n ≤ 1152921504606846976) : 0 ≤ isq n ∧ isq n * isq n ≤ n ∧ n < (isq n + 1) * (isq n + 1) :=
  rt_spec n 31 0 (by omega) (by omega) (by omega)
theorem rt32 {n : Int} (h : 0 ≤ n ∧ n ≤ 1152921504606846976) : rt 32 0 n = isq n := by
  obtain ⟨a1, a2, a3⟩ := isq_spec h
  obtain ⟨b1, b2, b3⟩ := rt_spec n 32 0 (by omega) (by omega) (by omega)
  exact root_uniq b1 b2 b3 a1 a2 a3
def bitI : Nat → Int
  | 0 => 0
  | k + 1 => 2 ^ k
theorem bitI_half (k : Nat) : (bitI (k + 1)).tdiv 2 = bitI k := by
  cases k with
  | zero => rfl
  | succ k => simp only [bitI]; rw [Int.pow_succ]; exact Int.mul_tdiv_cancel _ (by omega)
theorem bitI_half' (k : Nat) : (bitI (k + 1)).fdiv 2 = bitI k := by
  cases k with
  | zero => rfl
  | succ k => simp only [bitI]; rw [Int.pow_succ]; exact Int.mul_fdiv_cancel _ (by omega)
theorem two_le (k m : Nat) (h : k ≤ m) : (2 : Int) ^ k ≤ 2 ^ m := by
  have := Nat.pow_le_pow_right (show 0 < 2 by omega) h
  exact_mod_cast this
/-- The root, rounded up. -/
abbrev isqU (n : Int) : Int := if isq n * isq n < n then isq n + 1 else isq n
theorem isq_le {n : Int} (h : 0 ≤ n ∧ n ≤ 1152921504606846976) : isq n ≤ 1073741824 := by
  obtain ⟨a1, a2, a3⟩ := isq_spec h
  rcases Int.lt_or_le 1073741824 (isq n) with h1 | h1
  · have := Int.mul_le_mul (show 1073741825 ≤ isq n by omega) (show 1073741825 ≤ isq n by omega) (by omega) a1; omega
  · exact h1
theorem or_bit {r : Int} {k : Nat} (hk : k ≤ 31) (hr : 0 ≤ r ∧ r < 4294967296) (hd : ∃ q : Int, r = 2 ^ (k + 1) * q) :
    IntKind.i64.wrap ((BitVec.ofInt IntKind.i64.bits r ||| BitVec.ofInt IntKind.i64.bits (2 ^ k)).toNat : Nat) = r + 2 ^ k := by
  obtain ⟨q, hq⟩ := hd
  obtain ⟨r', rfl⟩ := Int.eq_ofNat_of_zero_le hr.1
  have hp : (0 : Int) < 2 ^ (k + 1) := Int.pow_pos (by omega)
  have hq0 : 0 ≤ q := by
    rcases Int.lt_or_le q 0 with h | h
    · have := Int.mul_le_mul_of_nonneg_left (show q ≤ -1 by omega) (show (0 : Int) ≤ 2 ^ (k + 1) by omega); omega
    · exact h
  obtain ⟨q', rfl⟩ := Int.eq_ofNat_of_zero_le hq0
  have hq' : r' = 2 ^ (k + 1) * q' := by exact_mod_cast hq
  have hk2 : 2 ^ k ≤ 2147483648 := Nat.pow_le_pow_right (show 0 < 2 by omega) hk
  have hb : ((2 ^ IntKind.i64.bits : Nat) : Int) = 18446744073709551616 := by decide
  have e1 : (BitVec.ofInt IntKind.i64.bits (r' : Int)).toNat = r' := by
    rw [BitVec.toNat_ofInt, hb]; omega
  have e2 : (BitVec.ofInt IntKind.i64.bits (2 ^ k)).toNat = 2 ^ k := by
    rw [show ((2 : Int) ^ k) = ((2 ^ k : Nat) : Int) by norm_cast, BitVec.toNat_ofInt, hb]
    generalize 2 ^ k = m at hk2 ⊢
    omega
  rw [BitVec.toNat_or, e1, e2, hq', ← Nat.two_pow_add_eq_or_of_lt (Nat.pow_lt_pow_right (by omega) (by omega)), ← hq']
  have : ((r' + 2 ^ k : Nat) : Int) = (r' : Int) + 2 ^ k := by norm_cast
  rw [this]
  refine wrap64_id ⟨?_, ?_⟩
  · have : (0 : Int) < 2 ^ k := Int.pow_pos (by omega)
    omega
  · have h : ((2 ^ k : Nat) : Int) ≤ 2147483648 := by omega
    rw [Int.natCast_pow] at h
    have h2 : (2 : Int) ^ k ≤ 2147483648 := h
    omega
abbrev Lk := Int × Int × Int
abbrev Rg := Int × Int
/-- The first bad item, from index k on, and its error. -/
def eachE {α : Type} (f : α → Int) : Nat → List α → Int × Int
  | _, [] => (0, 0)
  | k, x :: l => if f x = 0 then eachE f (k + 1) l else (k, f x)
theorem eachE_drop {α : Type} (f : α → Int) (d : α) (l : List α) (k : Nat) (h : k < l.length) : eachE f k (l.drop k) = if f (l.getD k d) = 0 then eachE f (k + 1) (l.drop (k + 1)) else ((k : Int), f (l.getD k d)) := by
  rw [List.drop_eq_getElem_cons h, eachE, List.getD_eq_getElem?_getD, List.getElem?_eq_getElem h]
  rfl
theorem eachE_ok {α : Type} {f : α → Int} : ∀ {l : List α} {k : Nat}, (eachE f k l).2 = 0 ↔ ∀ x ∈ l, f x = 0
  | [], k => by simp [eachE]
  | x :: l, k => by
    rw [eachE]
    split
    · rename_i h; rw [eachE_ok (l := l)]; simp [h]
    · rename_i h; simp [h]
abbrev lkOk (k : Lk) : Prop := (1 ≤ k.1 ∧ k.1 ≤ 1000) ∧ (-1000 ≤ k.2.1 ∧ k.2.1 ≤ 1000) ∧ 0 ≤ k.2.2 ∧ k.2.2 ≤ 20
abbrev lkErr (k : Lk) : Int := unl (lkOk k) 2
abbrev curOk (n : Int) : Prop := -50 ≤ n ∧ n ≤ 50
abbrev curErr (n : Int) : Int := unl (curOk n) 2
abbrev rgErr (r : Rg) : Int := fstE [unl (curOk r.1 ∧ curOk r.2) 2, unl (r.1 ≤ r.2) 9]
abbrev ldE (x z : Int) (l : List Lk) : Int := fstE [unl ((-10000 ≤ x ∧ x ≤ 10000) ∧ -10000 ≤ z ∧ z ≤ 10000) 2, unl (0 < (l.length : Int)) 10, unl ((l.length : Int) ≤ 10) 8]
def lineE (x z : Int) (l : List Lk) : Int × Int := if ldE x z l = 0 then eachE lkErr 0 l else (0, ldE x z l)
theorem unl_and_t {p q : Prop} [Decidable p] [Decidable q] (h : p) (e : Int) : unb (decide q) e = unl (p ∧ q) e := by simp [unl, h]
theorem unl_and_f {p q : Prop} [Decidable p] [Decidable q] (h : ¬ p) (e : Int) : unb false e = unl (p ∧ q) e := by simp [unl, h]
theorem fstE_ok : ∀ {l : List Int}, fstE l = 0 ↔ ∀ e ∈ l, e = 0
  | [] => by simp [fstE]
  | e :: l => by
    rw [fstE]
    split
    · rename_i h; rw [fstE_ok (l := l)]; simp [h]
    · rename_i h; simp [h]
theorem unb_ok {b : Bool} {e : Int} (he : e ≠ 0) : unb b e = 0 ↔ b = true := by cases b <;> simp [unb, he]
/-- A valid line. -/
structure LnOk (x z : Int) (l : List Lk) : Prop where
  x : -10000 ≤ x ∧ x ≤ 10000
  z : -10000 ≤ z ∧ z ≤ 10000
  n : 0 < l.length ∧ l.length ≤ 10
  l : ∀ k ∈ l, lkOk k
theorem lineE_ok {x z : Int} {l : List Lk} : (lineE x z l).2 = 0 ↔ LnOk x z l := by
  have h1 : ldE x z l = 0 ↔ ((-10000 ≤ x ∧ x ≤ 10000) ∧ -10000 ≤ z ∧ z ≤ 10000) ∧ 0 < (l.length : Int) ∧ (l.length : Int) ≤ 10 := by
    unfold ldE
    rw [fstE_ok]
    simp only [List.mem_cons, List.not_mem_nil, or_false, forall_eq_or_imp, forall_eq, unl, unb_ok (show (2 : Int) ≠ 0 by decide), unb_ok (show (10 : Int) ≠ 0 by decide), unb_ok (show (8 : Int) ≠ 0 by decide), decide_eq_true_eq]
  unfold lineE
  by_cases h0 : ldE x z l = 0
  · rw [if_pos h0, eachE_ok]
    have h2 := h1.1 h0
    refine ⟨fun h => ⟨h2.1.1, h2.1.2, by omega, fun k hk => by have := h k hk; rwa [lkErr, unl, unb_ok (by decide), decide_eq_true_eq] at this⟩, fun h k hk => ?_⟩
    rw [lkErr, unl, unb_ok (by decide), decide_eq_true_eq]; exact h.l k hk
  · rw [if_neg h0]
    refine ⟨fun h => absurd h h0, fun h => absurd (h1.2 ⟨⟨h.x, h.z⟩, ?_⟩) h0⟩
    have := h.n; omega
/-- A box of a line that was checked. -/
def boxE (n : Nat) (b : List Rg) : Int × Int := if b.length = n then eachE rgErr 0 b else (0, 10)
def lbE (x z : Int) (l : List Lk) (b : List Rg) : Int × Int := if (lineE x z l).2 = 0 then boxE l.length b else lineE x z l
structure Ln where
  x : Int
  z : Int
  l : List Lk
  b : List Rg
abbrev Ln.v (L : Ln) : List C := [int L.x, int L.z, trs L.l, prs L.b]
def Ln.h (L : Ln) (k : Nat) : Int := (L.l.getD k (0, 0, 0)).1
def Ln.w (L : Ln) (k : Nat) : Int := (L.l.getD k (0, 0, 0)).2.1
def Ln.d (L : Ln) (k : Nat) : Int := (L.l.getD k (0, 0, 0)).2.2
def Ln.lo (L : Ln) (k : Nat) : Int := (L.b.getD k (0, 0)).1
def Ln.hi (L : Ln) (k : Nat) : Int := (L.b.getD k (0, 0)).2
/-- The pull behind k links; the height of the last one. -/
def Ln.pl (L : Ln) : Nat → Int
  | 0 => L.x
  | k + 1 => L.pl k + L.d k * L.lo k
def Ln.ph (L : Ln) : Nat → Int
  | 0 => L.x
  | k + 1 => L.ph k + L.d k * L.hi k
def Ln.pz (L : Ln) : Nat → Int
  | 0 => L.z
  | k + 1 => L.pz k + L.w k
def Ln.hh (L : Ln) : Nat → Int
  | 0 => 0
  | k + 1 => L.h k
/-- A valid line with ranges of currents. -/
structure Ln.Ok (L : Ln) : Prop where
  k : LnOk L.x L.z L.l
  b : L.b.length = L.l.length
  c : ∀ r ∈ L.b, curOk r.1 ∧ curOk r.2 ∧ r.1 ≤ r.2
theorem getD_mem {α : Type} {l : List α} {k : Nat} (d : α) (h : k < l.length) : l.getD k d ∈ l := by
  rw [List.getD_eq_getElem?_getD, List.getElem?_eq_getElem h]; exact List.getElem_mem _
theorem Ln.Ok.lk {L : Ln} (h : L.Ok) {k : Nat} (hk : k < L.l.length) : (1 ≤ L.h k ∧ L.h k ≤ 1000) ∧ (-1000 ≤ L.w k ∧ L.w k ≤ 1000) ∧ 0 ≤ L.d k ∧ L.d k ≤ 20 := h.k.l _ (getD_mem _ hk)
theorem Ln.Ok.rg {L : Ln} (h : L.Ok) {k : Nat} (hk : k < L.l.length) : (-50 ≤ L.lo k ∧ L.lo k ≤ 50) ∧ (-50 ≤ L.hi k ∧ L.hi k ≤ 50) ∧ L.lo k ≤ L.hi k := h.c _ (getD_mem _ (by rw [h.b]; exact hk))
theorem Ln.Ok.dlo {L : Ln} (h : L.Ok) {k : Nat} (hk : k < L.l.length) : -1000 ≤ L.d k * L.lo k ∧ L.d k * L.lo k ≤ 1000 := by
  have h1 := h.lk hk
  have h2 := h.rg hk
  exact mbd (A := 20) (B := 50) (by omega) (by omega)
theorem Ln.Ok.dhi {L : Ln} (h : L.Ok) {k : Nat} (hk : k < L.l.length) : -1000 ≤ L.d k * L.hi k ∧ L.d k * L.hi k ≤ 1000 := by
  have h1 := h.lk hk
  have h2 := h.rg hk
  exact mbd (A := 20) (B := 50) (by omega) (by omega)
theorem Ln.Ok.bd {L : Ln} (h : L.Ok) : ∀ k : Nat, k ≤ L.l.length → (-20000 ≤ L.pl k ∧ L.pl k ≤ 20000) ∧ (-20000 ≤ L.ph k ∧ L.ph k ≤ 20000) ∧ -20000 ≤ L.pz k ∧ L.pz k ≤ 20000 := by
  have key : ∀ k : Nat, k ≤ L.l.length → (-10000 - 1000 * k ≤ L.pl k ∧ L.pl k ≤ 10000 + 1000 * k) ∧ (-10000 - 1000 * k ≤ L.ph k ∧ L.ph k ≤ 10000 + 1000 * k) ∧ -10000 - 1000 * k ≤ L.pz k ∧ L.pz k ≤ 10000 + 1000 * k := by
    intro k
    induction k with
    | zero => intro _; have := h.k.x; have := h.k.z; simp only [Ln.pl, Ln.ph, Ln.pz]; omega
    | succ k ih =>
      intro hk
      have := ih (by omega)
      have h1 := h.dlo (k := k) (by omega)
      have h2 := h.dhi (k := k) (by omega)
      have h3 := h.lk (k := k) (by omega)
      simp only [Ln.pl, Ln.ph, Ln.pz]
      omega
  intro k hk
  have := key k hk
  have := h.k.n
  omega
/-- What a round over the pulls knows. -/
theorem Ln.Ok.round {L : Ln} (h : L.Ok) {k : Nat} (hk : k < L.l.length) :
    (-1000 ≤ (L.l.getD k (0, 0, 0)).2.2 * (L.b.getD k (0, 0)).1 ∧ (L.l.getD k (0, 0, 0)).2.2 * (L.b.getD k (0, 0)).1 ≤ 1000) ∧
    (-1000 ≤ (L.l.getD k (0, 0, 0)).2.2 * (L.b.getD k (0, 0)).2 ∧ (L.l.getD k (0, 0, 0)).2.2 * (L.b.getD k (0, 0)).2 ≤ 1000) ∧
    (-1000 ≤ (L.l.getD k (0, 0, 0)).2.1 ∧ (L.l.getD k (0, 0, 0)).2.1 ≤ 1000) ∧
    ((-20000 ≤ L.pl k ∧ L.pl k ≤ 20000) ∧ (-20000 ≤ L.ph k ∧ L.ph k ≤ 20000) ∧ -20000 ≤ L.pz k ∧ L.pz k ≤ 20000) ∧ L.b.length = L.l.length ∧ 0 < L.l.length ∧ L.l.length ≤ 10 :=
  ⟨h.dlo hk, h.dhi hk, (h.lk hk).2.1, h.bd k (by omega), h.b, h.k.n.1, h.k.n.2⟩
abbrev dup (n : Int) : Rg := (n, n)
abbrev opE (x z : Int) (l : List Lk) (c : List Int) : Int := fstE [(lineE x z l).2, unl ((c.length : Int) = l.length) 10]
def opn (x z : Int) (l : List Lk) (c : List Int) : Ln × Int := if opE x z l c = 0 then (⟨x, z, l, c.map dup⟩, (eachE curErr 0 c).2) else (⟨0, 0, [], []⟩, opE x z l c)
theorem map_take {α β : Type} (f : α → β) (d : α) (l : List α) (k : Nat) (h : k < l.length) : (l.take (k + 1)).map f = (l.take k).map f ++ [f (l.getD k d)] := by
  rw [List.take_succ_eq_append_getElem h, List.map_append, List.getD_eq_getElem?_getD, List.getElem?_eq_getElem h]; rfl
/-- ErrOpen if a link is slack. -/
def slkE (L : Ln) : Int := if ∀ k, k < L.l.length → 0 < L.pz (k + 1) then 0 else 21
def accL {α : Type} (f : Nat → α) (k : Nat) : List α := (List.range k).map f
theorem accL_succ {α : Type} (f : Nat → α) (k : Nat) : accL f (k + 1) = accL f k ++ [f k] := by simp [accL, List.range_succ]
theorem accL_len {α : Type} (f : Nat → α) (k : Nat) : (accL f k).length = k := by simp [accL]
def fltL (p : Nat → Bool) (k : Nat) : List Int := ((List.range k).filter p).map fun i : Nat => (i : Int)
theorem fltL_succ (p : Nat → Bool) (k : Nat) : fltL p (k + 1) = if p k = true then fltL p k ++ [(k : Int)] else fltL p k := by
  simp only [fltL, List.range_succ, List.filter_append, List.map_append]
  by_cases h : p k = true <;> simp [h]
theorem fltL_len (p : Nat → Bool) (k : Nat) : (fltL p k).length ≤ k := by
  have := List.length_filter_le p (List.range k)
  simp [fltL] at *; exact this
def sumI (f : Nat → Int) : Nat → Int
  | 0 => 0
  | k + 1 => sumI f k + f k
theorem sumI_bd {f : Nat → Int} {n : Nat} {M : Int} (h : ∀ k, k < n → -M ≤ f k ∧ f k ≤ M) : ∀ k, k ≤ n → -(M * k) ≤ sumI f k ∧ sumI f k ≤ M * k
  | 0, _ => by simp [sumI]
  | k + 1, hk => by
    have h1 := sumI_bd h k (by omega)
    have h2 := h k (by omega)
    have e : M * ((k + 1 : Nat) : Int) = M * k + M := by rw [Int.natCast_add, Int.mul_add]; simp
    rw [e, sumI]; omega
abbrev tnF (L : Ln) (i : Nat) : Rg := (L.pl (i + 1), L.pz (i + 1))
abbrev w64 (n : Int) : Prop := -9223372036854775808 ≤ n ∧ n ≤ 9223372036854775807
end Go.Pw

set_option linter.unusedVariables false
set_option maxHeartbeats 2000000
set_option maxRecDepth 100000
namespace Go.Pw
open Go Go.Proofs
/-- moonpool/moonpooltop.TopCableHolds -/
def lc5 : LCode :=
  (.seq (.region [⟨some 3, .boxS (.tmp 0), none⟩, ⟨some 6, .mv (.const (.bool false)), none⟩]) (.seq (.seq (.region [⟨some 33, .call (.func 47) [], none⟩, ⟨some 34, .un .not (.tmp
    33), none⟩]) (.cond (.tmp 34) (.seq (.region [⟨some 6, .mv (.const (.bool false)), none⟩]) .ret) .skip)) (.seq (.seq (.region [⟨some 35, .fld 2 (.tmp 3), none⟩, ⟨some 36, .load
    false 1 (.tmp 35), none⟩, ⟨some 37, .len (.tmp 36), none⟩, ⟨some 38, .bin .gtr (.tmp 37) (.const (.int .i64 10)), none⟩, ⟨some 39, .mv (.tmp 38), none⟩, ⟨some 40, .mv (.tmp 1),
    some (39, false)⟩, ⟨some 41, .len (.tmp 40), some (39, false)⟩, ⟨some 42, .bin .gtr (.tmp 41) (.const (.int .i64 10)), some (39, false)⟩, ⟨some 43, .pick (.tmp 39) (.const
    (.bool true)) (.tmp 42), none⟩, ⟨some 44, .mv (.tmp 43), none⟩, ⟨some 45, .mv (.tmp 2), some (44, false)⟩, ⟨some 46, .len (.tmp 45), some (44, false)⟩, ⟨some 47, .bin .gtr (.tmp
    46) (.const (.int .i64 20)), some (44, false)⟩, ⟨some 48, .pick (.tmp 44) (.const (.bool true)) (.tmp 47), none⟩, ⟨some 49, .mv (.tmp 48), none⟩, ⟨some 50, .load true 3 (.tmp
    3), some (49, false)⟩, ⟨some 51, .call (.func 22) [(.tmp 50)], some (49, false)⟩, ⟨some 52, .bin .neq (.tmp 51) (.const (.int .i64 0)), some (49, false)⟩, ⟨some 53, .pick (.tmp
    49) (.const (.bool true)) (.tmp 52), none⟩, ⟨some 54, .mv (.tmp 53), none⟩, ⟨some 55, .load true 3 (.tmp 3), some (54, false)⟩, ⟨some 56, .mv (.tmp 1), some (54, false)⟩, ⟨some
    57, .call (.func 23) [(.tmp 55), (.tmp 56)], some (54, false)⟩, ⟨some 58, .bin .neq (.tmp 57) (.const (.int .i64 0)), some (54, false)⟩, ⟨some 59, .pick (.tmp 54) (.const (.bool
    true)) (.tmp 58), none⟩]) (.cond (.tmp 59) (.seq (.region [⟨some 6, .mv (.const (.bool true)), none⟩]) .ret) .skip)) (.seq (.region [⟨some 61, .load true 3 (.tmp 3), none⟩,
    ⟨some 62, .call (.func 11) [(.tmp 61)], none⟩, ⟨some 63, .call (.func 10) [(.tmp 62)], none⟩, ⟨some 64, .call (.func 14) [(.tmp 63)], none⟩, ⟨some 60, .mv (.tmp 64), none⟩,
    ⟨some 65, .ext (.tmp 60) 0, none⟩, ⟨some 66, .ext (.tmp 60) 1, none⟩, ⟨some 7, .alloc [(.int .i64 0), (.int .i64 0), (.slice none 0 0)], none⟩, ⟨none, .store 3 (.tmp 7) (.tmp
    65), none⟩, ⟨some 8, .mv (.tmp 66), none⟩]) (.seq (.region [⟨some 68, .mv (.tmp 1), none⟩, ⟨some 69, .call (.func 13) [(.tmp 68)], none⟩, ⟨some 70, .call (.func 12) [(.tmp 69)],
    none⟩, ⟨some 71, .call (.func 15) [(.tmp 70)], none⟩, ⟨some 67, .mv (.tmp 71), none⟩, ⟨some 72, .ext (.tmp 67) 0, none⟩, ⟨some 73, .ext (.tmp 67) 1, none⟩, ⟨some 9, .mv (.tmp
    72), none⟩, ⟨some 10, .mv (.tmp 73), none⟩]) (.seq (.seq (.region [⟨some 74, .mv (.tmp 8), none⟩, ⟨some 75, .bin .neq (.tmp 74) (.const (.int .i64 0)), none⟩, ⟨some 76, .mv
    (.tmp 75), none⟩, ⟨some 77, .load true 3 (.tmp 7), some (76, false)⟩, ⟨some 78, .load true 3 (.tmp 3), some (76, false)⟩, ⟨some 79, .call (.func 20) [(.tmp 77), (.tmp 78)], some
    (76, false)⟩, ⟨some 80, .un .not (.tmp 79), some (76, false)⟩, ⟨some 81, .pick (.tmp 76) (.const (.bool true)) (.tmp 80), none⟩, ⟨some 82, .mv (.tmp 81), none⟩, ⟨some 83, .mv
    (.tmp 10), some (82, false)⟩, ⟨some 84, .bin .neq (.tmp 83) (.const (.int .i64 0)), some (82, false)⟩, ⟨some 85, .pick (.tmp 82) (.const (.bool true)) (.tmp 84), none⟩, ⟨some
    86, .mv (.tmp 85), none⟩, ⟨some 87, .mv (.tmp 9), some (86, false)⟩, ⟨some 88, .mv (.tmp 1), some (86, false)⟩, ⟨some 89, .call (.func 21) [(.tmp 87), (.tmp 88)], some (86,
    false)⟩, ⟨some 90, .un .not (.tmp 89), some (86, false)⟩, ⟨some 91, .pick (.tmp 86) (.const (.bool true)) (.tmp 90), none⟩]) (.cond (.tmp 91) (.seq (.region [⟨some 6, .mv
    (.const (.bool false)), none⟩]) .ret) .skip)) (.seq (.region [⟨some 93, .load true 3 (.tmp 7), none⟩, ⟨some 94, .call (.func 11) [(.tmp 93)], none⟩, ⟨some 95, .mv (.tmp 9),
    none⟩, ⟨some 96, .call (.func 13) [(.tmp 95)], none⟩, ⟨some 97, .call (.func 48) [(.tmp 94), (.tmp 96)], none⟩, ⟨some 92, .mv (.tmp 97), none⟩, ⟨some 98, .ext (.tmp 92) 0,
    none⟩, ⟨some 99, .ext (.tmp 92) 1, none⟩, ⟨some 11, .mv (.tmp 98), none⟩, ⟨some 12, .mv (.tmp 99), none⟩]) (.seq (.seq (.region [⟨some 100, .mv (.tmp 12), none⟩, ⟨some 101, .bin
    .neq (.tmp 100) (.const (.int .i64 0)), none⟩, ⟨some 102, .mv (.tmp 101), none⟩, ⟨some 103, .mv (.tmp 11), some (102, false)⟩, ⟨some 104, .len (.tmp 103), some (102, false)⟩,
    ⟨some 105, .mv (.tmp 1), some (102, false)⟩, ⟨some 106, .len (.tmp 105), some (102, false)⟩, ⟨some 107, .bin .neq (.tmp 104) (.tmp 106), some (102, false)⟩, ⟨some 108, .pick
    (.tmp 102) (.const (.bool true)) (.tmp 107), none⟩]) (.cond (.tmp 108) (.seq (.region [⟨some 6, .mv (.const (.bool false)), none⟩]) .ret) .skip)) (.seq (.region [⟨some 13, .mv
    (.const (.slice none 0 0)), none⟩, ⟨some 14, .mv (.const (.slice none 0 0)), none⟩]) (.seq (.seq (.region [⟨some 15, .mv (.const (.int .i64 0)), none⟩]) (.block 0 (.loop (.seq
    (.seq (.region [⟨some 109, .mv (.tmp 15), none⟩, ⟨some 110, .mv (.tmp 1), none⟩, ⟨some 111, .len (.tmp 110), none⟩, ⟨some 112, .bin .lss (.tmp 109) (.tmp 111), none⟩]) (.cond
    (.tmp 112) .skip (.exit 0))) (.seq (.block 1 (.seq (.region [⟨some 16, .mv (.const (.int .i64 0)), none⟩]) (.seq (.seq (.region [⟨some 115, .mv (.tmp 2), none⟩, ⟨some 116, .len
    (.tmp 115), none⟩, ⟨some 117, .bin .gtr (.tmp 116) (.const (.int .i64 0)), none⟩]) (.cond (.tmp 117) (.regionD [⟨some 118, .mv (.tmp 2), none⟩, ⟨some 119, .mv (.tmp 15), none⟩,
    ⟨some 120, .mv (.tmp 2), none⟩, ⟨some 121, .len (.tmp 120), none⟩, ⟨some 122, .bin .rem (.tmp 119) (.tmp 121), none⟩, ⟨some 123, .idx 1 (.tmp 118) (.tmp 122), none⟩, ⟨some 124,
    .load false 1 (.tmp 123), none⟩, ⟨some 125, .mv (.tmp 1), none⟩, ⟨some 126, .mv (.tmp 15), none⟩, ⟨some 127, .idx 2 (.tmp 125) (.tmp 126), none⟩, ⟨some 128, .fld 1 (.tmp 127),
    none⟩, ⟨some 129, .load false 1 (.tmp 128), none⟩, ⟨some 130, .mv (.tmp 1), none⟩, ⟨some 131, .mv (.tmp 15), none⟩, ⟨some 132, .idx 2 (.tmp 130) (.tmp 131), none⟩, ⟨some 133,
    .fld 0 (.tmp 132), none⟩, ⟨some 134, .load false 1 (.tmp 133), none⟩, ⟨some 135, .bin .sub (.tmp 129) (.tmp 134), none⟩, ⟨some 136, .bin .add (.tmp 135) (.const (.int .i64 1)),
    none⟩, ⟨some 137, .call (.func 49) [(.tmp 124), (.tmp 136)], none⟩, ⟨some 16, .mv (.tmp 137), none⟩] [0, 0, 0, 4, 14, 31, 63, 0, 0, 384, 896, 1920, 0, 0, 12288, 28672, 61440,
    130944, 262016, 524287, 1048575] [0, 1, 2, 3, 4, 5, 6, 7, 8, 9, 10, 11, 12, 13, 14, 15, 16, 17, 18, 19, 20]) .skip)) (.seq (.seq (.region [⟨some 138, .mv (.tmp 11), none⟩, ⟨some
    139, .mv (.tmp 15), none⟩, ⟨some 140, .idx 2 (.tmp 138) (.tmp 139), none⟩, ⟨some 141, .fld 1 (.tmp 140), none⟩, ⟨some 142, .load false 1 (.tmp 141), none⟩, ⟨some 143, .call
    (.func 46) [(.tmp 142), (.const (.int .i64 0)), (.const (.int .i64 800000000))], none⟩, ⟨some 144, .un .not (.tmp 143), none⟩]) (.cond (.tmp 144) (.seq (.region [⟨some 6, .mv
    (.const (.bool false)), none⟩]) .ret) .skip)) (.regionD [⟨some 145, .mv (.tmp 13), none⟩, ⟨some 146, .mv (.tmp 1), none⟩, ⟨some 147, .mv (.tmp 15), none⟩, ⟨some 148, .idx 2
    (.tmp 146) (.tmp 147), none⟩, ⟨some 149, .fld 0 (.tmp 148), none⟩, ⟨some 150, .load false 1 (.tmp 149), none⟩, ⟨some 151, .mv (.tmp 16), none⟩, ⟨some 152, .bin .add (.tmp 150)
    (.tmp 151), none⟩, ⟨some 153, .lit false 3 1 [(.tmp 152)], none⟩, ⟨some 154, .append true 3 1 8 (.tmp 145) (.tmp 153), none⟩, ⟨some 155, .mv (.tmp 14), none⟩, ⟨some 156, .mv
    (.tmp 11), none⟩, ⟨some 157, .mv (.tmp 15), none⟩, ⟨some 158, .idx 2 (.tmp 156) (.tmp 157), none⟩, ⟨some 159, .fld 1 (.tmp 158), none⟩, ⟨some 160, .load false 1 (.tmp 159),
    none⟩, ⟨some 161, .call (.func 50) [(.tmp 160)], none⟩, ⟨some 162, .lit false 3 1 [(.tmp 161)], none⟩, ⟨some 163, .append true 3 1 8 (.tmp 155) (.tmp 162), none⟩, ⟨some 13, .mv
    (.tmp 154), none⟩, ⟨some 14, .mv (.tmp 163), none⟩] [0, 0, 0, 6, 14, 30, 0, 126, 254, 511, 0, 0, 0, 6144, 14336, 30720, 64511, 130047, 262143, 524287, 1048575] [0, 1, 2, 3, 4,
    5, 6, 7, 8, 9, 10, 11, 12, 13, 14, 15, 16, 17, 18, 19, 20]))))) (.region [⟨some 113, .mv (.tmp 15), none⟩, ⟨some 114, .bin .add (.tmp 113) (.const (.int .i64 1)), none⟩, ⟨some
    15, .mv (.tmp 114), none⟩])))))) (.seq (.region [⟨some 165, .load true 3 (.tmp 3), none⟩, ⟨some 166, .call (.func 11) [(.tmp 165)], none⟩, ⟨some 167, .mv (.tmp 13), none⟩, ⟨some
    168, .call (.func 32) [(.tmp 167)], none⟩, ⟨some 169, .mv (.tmp 14), none⟩, ⟨some 170, .call (.func 51) [(.tmp 166), (.tmp 168), (.tmp 169)], none⟩, ⟨some 164, .mv (.tmp 170),
    none⟩, ⟨some 171, .ext (.tmp 164) 0, none⟩, ⟨some 172, .ext (.tmp 164) 1, none⟩, ⟨some 17, .mv (.tmp 171), none⟩, ⟨some 18, .mv (.tmp 172), none⟩]) (.seq (.region [⟨some 174,
    .load true 3 (.tmp 3), none⟩, ⟨some 175, .call (.func 11) [(.tmp 174)], none⟩, ⟨some 176, .mv (.tmp 13), none⟩, ⟨some 177, .call (.func 32) [(.tmp 176)], none⟩, ⟨some 178, .call
    (.func 52) [(.tmp 175), (.tmp 177)], none⟩, ⟨some 173, .mv (.tmp 178), none⟩, ⟨some 179, .ext (.tmp 173) 0, none⟩, ⟨some 180, .ext (.tmp 173) 1, none⟩, ⟨some 19, .mv (.tmp 179),
    none⟩, ⟨some 20, .mv (.tmp 180), none⟩]) (.seq (.region [⟨some 182, .load true 3 (.tmp 3), none⟩, ⟨some 183, .call (.func 11) [(.tmp 182)], none⟩, ⟨some 184, .mv (.tmp 13),
    none⟩, ⟨some 185, .call (.func 32) [(.tmp 184)], none⟩, ⟨some 186, .call (.func 53) [(.tmp 183), (.tmp 185)], none⟩, ⟨some 181, .mv (.tmp 186), none⟩, ⟨some 187, .ext (.tmp 181)
    0, none⟩, ⟨some 188, .ext (.tmp 181) 1, none⟩, ⟨some 189, .ext (.tmp 181) 2, none⟩, ⟨some 21, .mv (.tmp 187), none⟩, ⟨some 22, .mv (.tmp 188), none⟩, ⟨some 23, .mv (.tmp 189),
    none⟩]) (.seq (.seq (.region [⟨some 190, .mv (.tmp 18), none⟩, ⟨some 191, .bin .neq (.tmp 190) (.const (.int .i64 0)), none⟩, ⟨some 192, .mv (.tmp 191), none⟩, ⟨some 193, .mv
    (.tmp 17), some (192, false)⟩, ⟨some 194, .len (.tmp 193), some (192, false)⟩, ⟨some 195, .bin .neq (.tmp 194) (.const (.int .i64 0)), some (192, false)⟩, ⟨some 196, .pick (.tmp
    192) (.const (.bool true)) (.tmp 195), none⟩, ⟨some 197, .mv (.tmp 196), none⟩, ⟨some 198, .mv (.tmp 20), some (197, false)⟩, ⟨some 199, .bin .neq (.tmp 198) (.const (.int .i64
    0)), some (197, false)⟩, ⟨some 200, .pick (.tmp 197) (.const (.bool true)) (.tmp 199), none⟩, ⟨some 201, .mv (.tmp 200), none⟩, ⟨some 202, .mv (.tmp 19), some (201, false)⟩,
    ⟨some 203, .len (.tmp 202), some (201, false)⟩, ⟨some 204, .mv (.tmp 1), some (201, false)⟩, ⟨some 205, .len (.tmp 204), some (201, false)⟩, ⟨some 206, .bin .neq (.tmp 203)
    (.tmp 205), some (201, false)⟩, ⟨some 207, .pick (.tmp 201) (.const (.bool true)) (.tmp 206), none⟩, ⟨some 208, .mv (.tmp 207), none⟩, ⟨some 209, .mv (.tmp 23), some (208,
    false)⟩, ⟨some 210, .bin .neq (.tmp 209) (.const (.int .i64 0)), some (208, false)⟩, ⟨some 211, .pick (.tmp 208) (.const (.bool true)) (.tmp 210), none⟩]) (.cond (.tmp 211)
    (.seq (.region [⟨some 6, .mv (.const (.bool false)), none⟩]) .ret) .skip)) (.seq (.region [⟨some 24, .mv (.const (.slice none 0 0)), none⟩]) (.seq (.region [⟨some 25, .mv
    (.const (.int .i64 0)), none⟩]) (.seq (.seq (.region [⟨some 26, .mv (.const (.int .i64 0)), none⟩]) (.block 2 (.loop (.seq (.seq (.region [⟨some 212, .mv (.tmp 26), none⟩, ⟨some
    213, .mv (.tmp 19), none⟩, ⟨some 214, .len (.tmp 213), none⟩, ⟨some 215, .bin .lss (.tmp 212) (.tmp 214), none⟩]) (.cond (.tmp 215) .skip (.exit 2))) (.seq (.block 3 (.seq (.seq
    (.region [⟨some 218, .mv (.tmp 19), none⟩, ⟨some 219, .mv (.tmp 26), none⟩, ⟨some 220, .idx 2 (.tmp 218) (.tmp 219), none⟩, ⟨some 221, .fld 0 (.tmp 220), none⟩, ⟨some 222, .load
    false 1 (.tmp 221), none⟩, ⟨some 223, .call (.func 54) [(.tmp 222)], none⟩, ⟨some 224, .bin .gtr (.tmp 223) (.const (.int .i64 20000)), none⟩]) (.cond (.tmp 224) (.seq (.region
    [⟨some 6, .mv (.const (.bool false)), none⟩]) .ret) .skip)) (.seq (.regionD [⟨some 225, .mv (.tmp 24), none⟩, ⟨some 226, .mv (.tmp 26), none⟩, ⟨some 227, .mv (.tmp 19), none⟩,
    ⟨some 228, .mv (.tmp 26), none⟩, ⟨some 229, .idx 2 (.tmp 227) (.tmp 228), none⟩, ⟨some 230, .fld 0 (.tmp 229), none⟩, ⟨some 231, .load false 1 (.tmp 230), none⟩, ⟨some 232, .mv
    (.tmp 19), none⟩, ⟨some 233, .mv (.tmp 26), none⟩, ⟨some 234, .idx 2 (.tmp 232) (.tmp 233), none⟩, ⟨some 235, .fld 0 (.tmp 234), none⟩, ⟨some 236, .load false 1 (.tmp 235),
    none⟩, ⟨some 237, .build [(.int .i64 0), (.int .i64 0)] [(0, 1, (.tmp 231)), (1, 1, (.tmp 236))], none⟩, ⟨some 238, .build [(.int .i64 0), (.int .i64 0), (.int .i64 0)] [(0, 1,
    (.tmp 226)), (1, 2, (.tmp 237))], none⟩, ⟨some 239, .lit false 92 3 [(.tmp 238)], none⟩, ⟨some 240, .append true 92 3 24 (.tmp 225) (.tmp 239), none⟩, ⟨some 24, .mv (.tmp 240),
    none⟩] [0, 0, 0, 0, 12, 28, 60, 0, 0, 384, 896, 1920, 4092, 8190, 16382, 32767, 65535] [0, 1, 2, 3, 4, 5, 6, 7, 8, 9, 10, 11, 12, 13, 14, 15, 16]) (.region [⟨some 241, .mv (.tmp
    25), none⟩, ⟨some 242, .mv (.tmp 11), none⟩, ⟨some 243, .mv (.tmp 26), none⟩, ⟨some 244, .idx 2 (.tmp 242) (.tmp 243), none⟩, ⟨some 245, .fld 1 (.tmp 244), none⟩, ⟨some 246,
    .load false 1 (.tmp 245), none⟩, ⟨some 247, .mm true [(.tmp 241), (.tmp 246)], none⟩, ⟨some 25, .mv (.tmp 247), none⟩])))) (.region [⟨some 216, .mv (.tmp 26), none⟩, ⟨some 217,
    .bin .add (.tmp 216) (.const (.int .i64 1)), none⟩, ⟨some 26, .mv (.tmp 217), none⟩])))))) (.seq (.seq (.region [⟨some 248, .mv (.tmp 22), none⟩, ⟨some 249, .mv (.tmp 25),
    none⟩, ⟨some 250, .bin .gtr (.tmp 248) (.tmp 249), none⟩]) (.cond (.tmp 250) (.seq (.region [⟨some 6, .mv (.const (.bool false)), none⟩]) .ret) .skip)) (.seq (.seq (.region
    [⟨some 252, .load true 3 (.tmp 3), none⟩, ⟨some 253, .call (.func 11) [(.tmp 252)], none⟩, ⟨some 254, .mv (.tmp 1), none⟩, ⟨some 255, .call (.func 13) [(.tmp 254)], none⟩, ⟨some
    256, .mv (.tmp 24), none⟩, ⟨some 257, .call (.func 55) [(.tmp 253), (.tmp 255), (.tmp 256)], none⟩, ⟨some 251, .mv (.tmp 257), none⟩, ⟨some 258, .ext (.tmp 251) 0, none⟩, ⟨some
    259, .ext (.tmp 251) 1, none⟩, ⟨some 27, .mv (.tmp 258), none⟩, ⟨some 28, .mv (.tmp 259), none⟩]) (.seq (.region [⟨some 260, .mv (.tmp 28), none⟩, ⟨some 261, .bin .neq (.tmp
    260) (.const (.int .i64 12)), none⟩]) (.cond (.tmp 261) (.seq (.region [⟨some 6, .mv (.const (.bool false)), none⟩]) .ret) .skip))) (.seq (.region [⟨some 263, .load true 3 (.tmp
    7), none⟩, ⟨some 264, .mv (.tmp 9), none⟩, ⟨some 265, .call (.func 56) [(.tmp 263), (.tmp 264)], none⟩, ⟨some 262, .mv (.tmp 265), none⟩, ⟨some 266, .ext (.tmp 262) 0, none⟩,
    ⟨some 267, .ext (.tmp 262) 1, none⟩, ⟨some 29, .mv (.tmp 266), none⟩, ⟨some 30, .mv (.tmp 267), none⟩]) (.seq (.region [⟨some 269, .load true 3 (.tmp 3), none⟩, ⟨some 270, .call
    (.func 11) [(.tmp 269)], none⟩, ⟨some 271, .mv (.tmp 13), none⟩, ⟨some 272, .call (.func 57) [(.tmp 270), (.tmp 271)], none⟩, ⟨some 268, .mv (.tmp 272), none⟩, ⟨some 273, .ext
    (.tmp 268) 0, none⟩, ⟨some 274, .ext (.tmp 268) 1, none⟩, ⟨some 31, .alloc [(.int .i64 0), (.int .i64 0)], none⟩, ⟨none, .store 2 (.tmp 31) (.tmp 273), none⟩, ⟨some 32, .mv
    (.tmp 274), none⟩]) (.seq (.region [⟨some 275, .mv (.tmp 30), none⟩, ⟨some 276, .mv (.tmp 32), none⟩, ⟨some 277, .bin .eql (.tmp 275) (.tmp 276), none⟩, ⟨some 278, .mv (.tmp
    277), none⟩, ⟨some 279, .mv (.tmp 30), some (278, true)⟩, ⟨some 280, .bin .neq (.tmp 279) (.const (.int .i64 0)), some (278, true)⟩, ⟨some 281, .mv (.tmp 280), some (278,
    true)⟩, ⟨some 282, .fld 1 (.tmp 31), some (281, false)⟩, ⟨some 283, .load false 1 (.tmp 282), some (281, false)⟩, ⟨some 284, .mv (.tmp 29), some (281, false)⟩, ⟨some 285, .bin
    .leq (.tmp 283) (.tmp 284), some (281, false)⟩, ⟨some 286, .pick (.tmp 281) (.const (.bool true)) (.tmp 285), some (278, true)⟩, ⟨some 287, .pick (.tmp 278) (.tmp 286) (.const
    (.bool false)), none⟩, ⟨some 6, .mv (.tmp 287), none⟩]) .ret))))))))))))))))))))))
theorem low5 : lowF Tryz.prog [3, 154, 163, 240] Tryz.f5 = some (288, lc5.strip, [.tmp 6]) := by kernel_rfl
theorem fn5 : FnOk Tryz.prog 5 288 lc5 [.tmp 6] := ⟨Tryz.call5, [3, 154, 163, 240], _, Tryz.func5, low5⟩
/-- moonpool/moonpoolref01.CopyLine -/
def lc11 : LCode :=
  (.seq (.region [⟨some 1, .box (.tmp 0), none⟩, ⟨some 2, .alloc [(.int .i64 0), (.int .i64 0), (.slice none 0 0)], none⟩]) (.seq (.regionD [⟨some 3, .fld 0 (.tmp 1), none⟩, ⟨some
    4, .load true 2 (.tmp 3), none⟩, ⟨some 5, .lit false 160 3 [], none⟩, ⟨some 6, .fld 2 (.tmp 1), none⟩, ⟨some 7, .load false 1 (.tmp 6), none⟩, ⟨some 8, .append false 160 3 24
    (.tmp 5) (.tmp 7), none⟩, ⟨some 9, .build [(.int .i64 0), (.int .i64 0), (.slice none 0 0)] [(0, 2, (.tmp 4)), (2, 1, (.tmp 8))], none⟩, ⟨none, .store 3 (.tmp 2) (.tmp 9),
    none⟩] [0, 1, 0, 0, 8, 28, 63, 127] [0, 1, 2, 3, 4, 5, 6, 7]) .ret))
theorem low11 : lowF Tryz.prog [] Tryz.f11 = some (10, lc11.strip, [.cell 2 true 3]) := by kernel_rfl
theorem fn11 : FnOk Tryz.prog 11 10 lc11 [.cell 2 true 3] := ⟨Tryz.call11, [], _, Tryz.func11, low11⟩
/-- moonpool/cable.FormatBox -/
def lc12 : LCode :=
  (.seq (.region [⟨some 2, .mv (.const (.string ⟨#[]⟩)), none⟩]) (.seq (.region [⟨some 3, .mv (.const (.slice none 0 0)), none⟩]) (.seq (.seq (.region [⟨some 6, .mv (.tmp 0), none⟩,
    ⟨some 7, .len (.tmp 6), none⟩, ⟨some 8, .mv (.const (.int .i64 0)), none⟩]) (.block 0 (.loop (.seq (.region [⟨some 9, .bin .lss (.tmp 8) (.tmp 7), none⟩]) (.seq (.cond (.tmp 9)
    .skip (.exit 0)) (.seq (.block 1 (.seq (.region [⟨some 10, .idx 2 (.tmp 6) (.tmp 8), none⟩, ⟨some 11, .load true 2 (.tmp 10), none⟩, ⟨some 5, .alloc [(.int .i64 0), (.int .i64
    0)], none⟩, ⟨none, .store 2 (.tmp 5) (.tmp 11), none⟩]) (.region [⟨some 12, .mv (.tmp 3), none⟩, ⟨some 13, .fld 0 (.tmp 5), none⟩, ⟨some 14, .load false 1 (.tmp 13), none⟩,
    ⟨some 15, .fld 1 (.tmp 5), none⟩, ⟨some 16, .load false 1 (.tmp 15), none⟩, ⟨some 17, .lit false 3 1 [(.tmp 14), (.tmp 16)], none⟩, ⟨some 18, .append true 3 1 8 (.tmp 12) (.tmp
    17), none⟩, ⟨some 3, .mv (.tmp 18), none⟩]))) (.region [⟨some 19, .bin .add (.tmp 8) (.const (.int .i64 1)), none⟩, ⟨some 8, .mv (.tmp 19), none⟩]))))))) (.seq (.region [⟨some
    20, .mv (.tmp 3), none⟩, ⟨some 21, .call (.func 92) [(.tmp 20)], none⟩, ⟨some 2, .mv (.tmp 21), none⟩]) .ret))))
theorem low12 : lowF Tryz.prog [18] Tryz.f12 = some (22, lc12.strip, [.tmp 2]) := by kernel_rfl
theorem fn12 : FnOk Tryz.prog 12 22 lc12 [.tmp 2] := ⟨Tryz.call12, [18], _, Tryz.func12, low12⟩
/-- moonpool/moonpoolbase.CopyRanges -/
def lc13 : LCode :=
  (.seq (.region [⟨some 2, .mv (.const (.slice none 0 0)), none⟩]) (.seq (.region [⟨some 3, .lit false 82 2 [], none⟩, ⟨some 4, .mv (.tmp 0), none⟩, ⟨some 5, .append false 82 2 16
    (.tmp 3) (.tmp 4), none⟩, ⟨some 2, .mv (.tmp 5), none⟩]) .ret))
theorem low13 : lowF Tryz.prog [] Tryz.f13 = some (6, lc13.strip, [.tmp 2]) := by kernel_rfl
theorem fn13 : FnOk Tryz.prog 13 6 lc13 [.tmp 2] := ⟨Tryz.call13, [], _, Tryz.func13, low13⟩
/-- moonpool/cable.ParseLine -/
def lc14 : LCode :=
  (.seq (.region [⟨some 2, .alloc [(.int .i64 0), (.int .i64 0), (.slice none 0 0)], none⟩, ⟨some 3, .mv (.const (.int .i64 0)), none⟩]) (.seq (.seq (.region [⟨some 12, .mv (.tmp
    0), none⟩, ⟨some 13, .lenS (.tmp 12), none⟩, ⟨some 14, .bin .gtr (.tmp 13) (.const (.int .i64 60000)), none⟩]) (.cond (.tmp 14) (.seq (.region [⟨some 15, .build [(.int .i64 0),
    (.int .i64 0), (.slice none 0 0)] [], none⟩, ⟨none, .store 3 (.tmp 2) (.tmp 15), none⟩, ⟨some 3, .mv (.const (.int .i64 8)), none⟩]) .ret) .skip)) (.seq (.region [⟨some 4,
    .alloc [(.int .i64 0), (.int .i64 0), (.slice none 0 0)], none⟩]) (.seq (.region [⟨some 16, .mv (.tmp 0), none⟩, ⟨some 17, .call (.func 94) [(.tmp 16), (.const (.string
    ⟨#[59]⟩))], none⟩, ⟨some 5, .mv (.tmp 17), none⟩]) (.seq (.region [⟨some 18, .mv (.tmp 5), none⟩, ⟨some 19, .idx 1 (.tmp 18) (.const (.int .i64 0)), none⟩, ⟨some 20, .load false
    1 (.tmp 19), none⟩, ⟨some 21, .lit false 3 1 [(.const (.int .i64 0)), (.const (.int .i64 1))], none⟩, ⟨some 22, .fld 0 (.tmp 4), none⟩, ⟨some 23, .fld 0 (.tmp 22), none⟩, ⟨some
    24, .fld 0 (.tmp 4), none⟩, ⟨some 25, .fld 1 (.tmp 24), none⟩, ⟨some 26, .litP [(.tmp 23), (.tmp 25)], none⟩, ⟨some 27, .call (.func 95) [(.tmp 20), (.tmp 21), (.tmp 26)],
    none⟩, ⟨some 6, .mv (.tmp 27), none⟩]) (.seq (.seq (.region [⟨some 28, .mv (.tmp 5), none⟩, ⟨some 29, .slc 1 (.tmp 28) (some (.const (.int .i64 1))) none, none⟩, ⟨some 30, .len
    (.tmp 29), none⟩, ⟨some 31, .mv (.const (.int .i64 0)), none⟩]) (.block 0 (.loop (.seq (.region [⟨some 32, .bin .lss (.tmp 31) (.tmp 30), none⟩]) (.seq (.cond (.tmp 32) .skip
    (.exit 0)) (.seq (.block 1 (.seq (.region [⟨some 33, .idx 1 (.tmp 29) (.tmp 31), none⟩, ⟨some 34, .load false 1 (.tmp 33), none⟩, ⟨some 8, .mv (.tmp 34), none⟩]) (.seq (.region
    [⟨some 9, .alloc [(.int .i64 0), (.int .i64 0), (.int .i64 0)], none⟩]) (.seq (.region [⟨some 35, .mv (.tmp 8), none⟩, ⟨some 36, .lit false 3 1 [(.const (.int .i64 1))], none⟩,
    ⟨some 37, .fld 0 (.tmp 9), none⟩, ⟨some 38, .fld 1 (.tmp 9), none⟩, ⟨some 39, .fld 2 (.tmp 9), none⟩, ⟨some 40, .litP [(.tmp 37), (.tmp 38), (.tmp 39)], none⟩, ⟨some 41, .call
    (.func 95) [(.tmp 35), (.tmp 36), (.tmp 40)], none⟩, ⟨some 42, .mv (.tmp 41), none⟩, ⟨some 43, .mv (.tmp 6), some (42, true)⟩, ⟨some 44, .pick (.tmp 42) (.tmp 43) (.const (.bool
    false)), none⟩, ⟨some 6, .mv (.tmp 44), none⟩]) (.region [⟨some 45, .fld 2 (.tmp 4), none⟩, ⟨some 46, .load false 1 (.tmp 45), none⟩, ⟨some 47, .load true 3 (.tmp 9), none⟩,
    ⟨some 48, .lit false 160 3 [(.tmp 47)], none⟩, ⟨some 49, .append true 160 3 24 (.tmp 46) (.tmp 48), none⟩, ⟨some 50, .fld 2 (.tmp 4), none⟩, ⟨none, .store 1 (.tmp 50) (.tmp 49),
    none⟩]))))) (.region [⟨some 51, .bin .add (.tmp 31) (.const (.int .i64 1)), none⟩, ⟨some 31, .mv (.tmp 51), none⟩]))))))) (.seq (.seq (.region [⟨some 52, .mv (.tmp 6), none⟩,
    ⟨some 53, .un .not (.tmp 52), none⟩]) (.cond (.tmp 53) (.seq (.region [⟨some 54, .build [(.int .i64 0), (.int .i64 0), (.slice none 0 0)] [], none⟩, ⟨none, .store 3 (.tmp 2)
    (.tmp 54), none⟩, ⟨some 3, .mv (.const (.int .i64 7)), none⟩]) .ret) .skip)) (.seq (.seq (.region [⟨some 56, .load true 3 (.tmp 4), none⟩, ⟨some 57, .call (.func 96) [(.tmp
    56)], none⟩, ⟨some 55, .mv (.tmp 57), none⟩, ⟨some 58, .ext (.tmp 55) 0, none⟩, ⟨some 59, .ext (.tmp 55) 1, none⟩, ⟨some 10, .mv (.tmp 58), none⟩, ⟨some 11, .mv (.tmp 59),
    none⟩]) (.seq (.region [⟨some 60, .mv (.tmp 11), none⟩, ⟨some 61, .bin .neq (.tmp 60) (.const (.int .i64 0)), none⟩]) (.cond (.tmp 61) (.seq (.region [⟨some 62, .build [(.int
    .i64 0), (.int .i64 0), (.slice none 0 0)] [], none⟩, ⟨some 63, .mv (.tmp 11), none⟩, ⟨none, .store 3 (.tmp 2) (.tmp 62), none⟩, ⟨some 3, .mv (.tmp 63), none⟩]) .ret) .skip)))
    (.seq (.region [⟨some 64, .load true 3 (.tmp 4), none⟩, ⟨none, .store 3 (.tmp 2) (.tmp 64), none⟩, ⟨some 3, .mv (.const (.int .i64 0)), none⟩]) .ret)))))))))
theorem low14 : lowF Tryz.prog [49] Tryz.f14 = some (65, lc14.strip, [.cell 2 true 3, .tmp 3]) := by kernel_rfl
theorem fn14 : FnOk Tryz.prog 14 65 lc14 [.cell 2 true 3, .tmp 3] := ⟨Tryz.call14, [49], _, Tryz.func14, low14⟩
def ra15 : LCode :=
  (.region [⟨some 6, .mv (.tmp 24), none⟩])
def rb15 : LCode :=
  (.block 1 (.seq (.region [⟨some 26, .mv (.tmp 6), none⟩, ⟨some 27, .idx 1 (.tmp 26) (.const (.int .i64 0)), none⟩, ⟨some 28, .load false 1 (.tmp 27), none⟩, ⟨some 29, .call (.func
    98) [(.tmp 28), (.const (.int .i64 2)), (.const (.bool true))], none⟩, ⟨some 25, .mv (.tmp 29), none⟩, ⟨some 30, .ext (.tmp 25) 0, none⟩, ⟨some 31, .ext (.tmp 25) 1, none⟩,
    ⟨some 7, .mv (.tmp 30), none⟩, ⟨some 8, .mv (.tmp 31), none⟩]) (.seq (.region [⟨some 33, .mv (.tmp 6), none⟩, ⟨some 34, .idx 1 (.tmp 33) (.const (.int .i64 1)), none⟩, ⟨some 35,
    .load false 1 (.tmp 34), none⟩, ⟨some 36, .call (.func 98) [(.tmp 35), (.const (.int .i64 2)), (.const (.bool true))], none⟩, ⟨some 32, .mv (.tmp 36), none⟩, ⟨some 37, .ext
    (.tmp 32) 0, none⟩, ⟨some 38, .ext (.tmp 32) 1, none⟩, ⟨some 9, .mv (.tmp 37), none⟩, ⟨some 10, .mv (.tmp 38), none⟩]) (.seq (.seq (.region [⟨some 39, .mv (.tmp 8), none⟩, ⟨some
    40, .un .not (.tmp 39), none⟩, ⟨some 41, .mv (.tmp 40), none⟩, ⟨some 42, .mv (.tmp 10), some (41, false)⟩, ⟨some 43, .un .not (.tmp 42), some (41, false)⟩, ⟨some 44, .pick (.tmp
    41) (.const (.bool true)) (.tmp 43), none⟩]) (.cond (.tmp 44) (.seq (.region [⟨none, .store 1 (.tmp 2) (.const (.slice none 0 0)), none⟩, ⟨none, .store 1 (.tmp 3) (.const (.int
    .i64 7)), none⟩]) .ret) .skip)) (.region [⟨some 45, .load false 1 (.tmp 4), none⟩, ⟨some 46, .mv (.tmp 7), none⟩, ⟨some 47, .mv (.tmp 9), none⟩, ⟨some 48, .build [(.int .i64 0),
    (.int .i64 0)] [(0, 1, (.tmp 46)), (1, 1, (.tmp 47))], none⟩, ⟨some 49, .lit false 82 2 [(.tmp 48)], none⟩, ⟨some 50, .append true 82 2 16 (.tmp 45) (.tmp 49), none⟩, ⟨none,
    .store 1 (.tmp 4) (.tmp 50), none⟩])))))
/-- moonpool/cable.ParseBox -/
def lc15 : LCode :=
  (.seq (.region [⟨some 2, .alloc [(.slice none 0 0)], none⟩, ⟨some 3, .alloc [(.int .i64 0)], none⟩]) (.seq (.seq (.region [⟨some 11, .mv (.tmp 0), none⟩, ⟨some 12, .lenS (.tmp
    11), none⟩, ⟨some 13, .bin .gtr (.tmp 12) (.const (.int .i64 60000)), none⟩]) (.cond (.tmp 13) (.seq (.region [⟨none, .store 1 (.tmp 2) (.const (.slice none 0 0)), none⟩, ⟨none,
    .store 1 (.tmp 3) (.const (.int .i64 8)), none⟩]) .ret) .skip)) (.seq (.seq (.region [⟨some 14, .mv (.tmp 0), none⟩, ⟨some 15, .eqS false (.tmp 14) (.const (.string ⟨#[]⟩)),
    none⟩]) (.cond (.tmp 15) (.seq (.region [⟨none, .store 1 (.tmp 2) (.const (.slice none 0 0)), none⟩, ⟨none, .store 1 (.tmp 3) (.const (.int .i64 0)), none⟩]) .ret) .skip)) (.seq
    (.region [⟨some 4, .alloc [(.slice none 0 0)], none⟩]) (.seq (.region [⟨some 16, .mv (.tmp 0), none⟩, ⟨some 17, .call (.func 94) [(.tmp 16), (.const (.string ⟨#[32]⟩))], none⟩,
    ⟨some 5, .mv (.tmp 17), none⟩]) (.seq (.seq (.region [⟨some 18, .mv (.tmp 5), none⟩, ⟨some 19, .len (.tmp 18), none⟩, ⟨some 20, .bin .rem (.tmp 19) (.const (.int .i64 2)),
    none⟩, ⟨some 21, .bin .neq (.tmp 20) (.const (.int .i64 0)), none⟩]) (.cond (.tmp 21) (.seq (.region [⟨none, .store 1 (.tmp 2) (.const (.slice none 0 0)), none⟩, ⟨none, .store 1
    (.tmp 3) (.const (.int .i64 7)), none⟩]) .ret) .skip)) (.seq (.seq (.region [⟨some 22, .mv (.tmp 5), none⟩, ⟨some 23, .call (.func 97) [(.tmp 22), (.const (.int .i64 2))],
    none⟩]) (.block 0 (.rangeFunc (.tmp 23) [24] ra15 rb15))) (.seq (.seq (.region [⟨some 51, .load false 1 (.tmp 4), none⟩, ⟨some 52, .call (.func 99) [(.tmp 51), (.func 100)],
    none⟩]) (.cond (.tmp 52) (.seq (.region [⟨none, .store 1 (.tmp 2) (.const (.slice none 0 0)), none⟩, ⟨none, .store 1 (.tmp 3) (.const (.int .i64 9)), none⟩]) .ret) .skip)) (.seq
    (.region [⟨some 53, .load false 1 (.tmp 4), none⟩, ⟨none, .store 1 (.tmp 2) (.tmp 53), none⟩, ⟨none, .store 1 (.tmp 3) (.const (.int .i64 0)), none⟩]) .ret)))))))))
theorem low15 : lowF Tryz.prog [50] Tryz.f15 = some (54, lc15.strip, [.cell 2 false 1, .cell 3 false 1]) := by kernel_rfl
theorem fn15 : FnOk Tryz.prog 15 54 lc15 [.cell 2 false 1, .cell 3 false 1] := ⟨Tryz.call15, [50], _, Tryz.func15, low15⟩
/-- moonpool/moonpoolref01.SameLine -/
def lc20 : LCode :=
  (.seq (.region [⟨some 2, .boxS (.tmp 0), none⟩, ⟨some 3, .boxS (.tmp 1), none⟩, ⟨some 4, .mv (.const (.bool false)), none⟩]) (.seq (.seq (.region [⟨some 6, .fld 0 (.tmp 2), none⟩,
    ⟨some 7, .load true 2 (.tmp 6), none⟩, ⟨some 8, .fld 0 (.tmp 3), none⟩, ⟨some 9, .load true 2 (.tmp 8), none⟩, ⟨some 10, .eqA true [false, false] (.tmp 7) (.tmp 9), none⟩, ⟨some
    11, .mv (.tmp 10), none⟩, ⟨some 12, .fld 2 (.tmp 2), some (11, false)⟩, ⟨some 13, .load false 1 (.tmp 12), some (11, false)⟩, ⟨some 14, .len (.tmp 13), some (11, false)⟩, ⟨some
    15, .fld 2 (.tmp 3), some (11, false)⟩, ⟨some 16, .load false 1 (.tmp 15), some (11, false)⟩, ⟨some 17, .len (.tmp 16), some (11, false)⟩, ⟨some 18, .bin .neq (.tmp 14) (.tmp
    17), some (11, false)⟩, ⟨some 19, .pick (.tmp 11) (.const (.bool true)) (.tmp 18), none⟩]) (.cond (.tmp 19) (.seq (.region [⟨some 4, .mv (.const (.bool false)), none⟩]) .ret)
    .skip)) (.seq (.seq (.region [⟨some 5, .mv (.const (.int .i64 0)), none⟩]) (.block 0 (.loop (.seq (.seq (.region [⟨some 20, .mv (.tmp 5), none⟩, ⟨some 21, .fld 2 (.tmp 2),
    none⟩, ⟨some 22, .load false 1 (.tmp 21), none⟩, ⟨some 23, .len (.tmp 22), none⟩, ⟨some 24, .bin .lss (.tmp 20) (.tmp 23), none⟩]) (.cond (.tmp 24) .skip (.exit 0))) (.seq
    (.block 1 (.seq (.regionD [⟨some 27, .fld 2 (.tmp 2), none⟩, ⟨some 28, .load false 1 (.tmp 27), none⟩, ⟨some 29, .mv (.tmp 5), none⟩, ⟨some 30, .idx 3 (.tmp 28) (.tmp 29),
    none⟩, ⟨some 31, .load true 3 (.tmp 30), none⟩, ⟨some 32, .fld 2 (.tmp 3), none⟩, ⟨some 33, .load false 1 (.tmp 32), none⟩, ⟨some 34, .mv (.tmp 5), none⟩, ⟨some 35, .idx 3 (.tmp
    33) (.tmp 34), none⟩, ⟨some 36, .load true 3 (.tmp 35), none⟩, ⟨some 37, .eqA true [false, false, false] (.tmp 31) (.tmp 36), none⟩] [0, 1, 0, 7, 15, 0, 32, 0, 224, 480, 1023]
    [0, 1, 2, 3, 4, 5, 6, 7, 8, 9, 10]) (.cond (.tmp 37) (.seq (.region [⟨some 4, .mv (.const (.bool false)), none⟩]) .ret) .skip))) (.region [⟨some 25, .mv (.tmp 5), none⟩, ⟨some
    26, .bin .add (.tmp 25) (.const (.int .i64 1)), none⟩, ⟨some 5, .mv (.tmp 26), none⟩])))))) (.seq (.region [⟨some 4, .mv (.const (.bool true)), none⟩]) .ret))))
theorem low20 : lowF Tryz.prog [2, 3] Tryz.f20 = some (38, lc20.strip, [.tmp 4]) := by kernel_rfl
theorem fn20 : FnOk Tryz.prog 20 38 lc20 [.tmp 4] := ⟨Tryz.call20, [2, 3], _, Tryz.func20, low20⟩
/-- moonpool/moonpoolbase.Ranges -/
def lc21 : LCode :=
  (.seq (.region [⟨some 4, .mv (.const (.bool false)), none⟩]) (.seq (.seq (.region [⟨some 6, .mv (.tmp 0), none⟩, ⟨some 7, .len (.tmp 6), none⟩, ⟨some 8, .mv (.tmp 1), none⟩, ⟨some
    9, .len (.tmp 8), none⟩, ⟨some 10, .bin .neq (.tmp 7) (.tmp 9), none⟩]) (.cond (.tmp 10) (.seq (.region [⟨some 4, .mv (.const (.bool false)), none⟩]) .ret) .skip)) (.seq (.seq
    (.region [⟨some 5, .mv (.const (.int .i64 0)), none⟩]) (.block 0 (.loop (.seq (.seq (.region [⟨some 11, .mv (.tmp 5), none⟩, ⟨some 12, .mv (.tmp 0), none⟩, ⟨some 13, .len (.tmp
    12), none⟩, ⟨some 14, .bin .lss (.tmp 11) (.tmp 13), none⟩]) (.cond (.tmp 14) .skip (.exit 0))) (.seq (.block 1 (.seq (.regionD [⟨some 17, .mv (.tmp 0), none⟩, ⟨some 18, .mv
    (.tmp 5), none⟩, ⟨some 19, .idx 2 (.tmp 17) (.tmp 18), none⟩, ⟨some 20, .load true 2 (.tmp 19), none⟩, ⟨some 21, .mv (.tmp 1), none⟩, ⟨some 22, .mv (.tmp 5), none⟩, ⟨some 23,
    .idx 2 (.tmp 21) (.tmp 22), none⟩, ⟨some 24, .load true 2 (.tmp 23), none⟩, ⟨some 25, .eqA true [false, false] (.tmp 20) (.tmp 24), none⟩] [0, 0, 3, 7, 0, 0, 48, 112, 255] [0,
    1, 2, 3, 4, 5, 6, 7, 8]) (.cond (.tmp 25) (.seq (.region [⟨some 4, .mv (.const (.bool false)), none⟩]) .ret) .skip))) (.region [⟨some 15, .mv (.tmp 5), none⟩, ⟨some 16, .bin
    .add (.tmp 15) (.const (.int .i64 1)), none⟩, ⟨some 5, .mv (.tmp 16), none⟩])))))) (.seq (.region [⟨some 4, .mv (.const (.bool true)), none⟩]) .ret))))
theorem low21 : lowF Tryz.prog [] Tryz.f21 = some (26, lc21.strip, [.tmp 4]) := by kernel_rfl
theorem fn21 : FnOk Tryz.prog 21 26 lc21 [.tmp 4] := ⟨Tryz.call21, [], _, Tryz.func21, low21⟩
/-- moonpool/moonpoolref01.LineErr -/
def lc22 : LCode :=
  (.seq (.region [⟨some 1, .box (.tmp 0), none⟩, ⟨some 2, .mv (.const (.int .i64 0)), none⟩]) (.seq (.region [⟨some 6, .load true 3 (.tmp 1), none⟩, ⟨some 7, .call (.func 104)
    [(.tmp 6)], none⟩, ⟨some 5, .mv (.tmp 7), none⟩, ⟨some 8, .ext (.tmp 5) 0, none⟩, ⟨some 9, .ext (.tmp 5) 1, none⟩, ⟨some 3, .mv (.tmp 8), none⟩, ⟨some 4, .mv (.tmp 9), none⟩])
    (.seq (.region [⟨some 10, .mv (.tmp 4), none⟩, ⟨some 2, .mv (.tmp 10), none⟩]) .ret)))
theorem low22 : lowF Tryz.prog [] Tryz.f22 = some (11, lc22.strip, [.tmp 2]) := by kernel_rfl
theorem fn22 : FnOk Tryz.prog 22 11 lc22 [.tmp 2] := ⟨Tryz.call22, [], _, Tryz.func22, low22⟩
/-- moonpool/moonpoolref01.BoxErr -/
def lc23 : LCode :=
  (.seq (.region [⟨some 2, .box (.tmp 0), none⟩, ⟨some 4, .mv (.const (.int .i64 0)), none⟩]) (.seq (.region [⟨some 8, .load true 3 (.tmp 2), none⟩, ⟨some 9, .mv (.tmp 1), none⟩,
    ⟨some 10, .call (.func 105) [(.tmp 8), (.tmp 9)], none⟩, ⟨some 7, .mv (.tmp 10), none⟩, ⟨some 11, .ext (.tmp 7) 0, none⟩, ⟨some 12, .ext (.tmp 7) 1, none⟩, ⟨some 5, .mv (.tmp
    11), none⟩, ⟨some 6, .mv (.tmp 12), none⟩]) (.seq (.region [⟨some 13, .mv (.tmp 6), none⟩, ⟨some 4, .mv (.tmp 13), none⟩]) .ret)))
theorem low23 : lowF Tryz.prog [] Tryz.f23 = some (14, lc23.strip, [.tmp 4]) := by kernel_rfl
theorem fn23 : FnOk Tryz.prog 23 14 lc23 [.tmp 4] := ⟨Tryz.call23, [], _, Tryz.func23, low23⟩
/-- moonpool/moonpoolbase.CopyInts -/
def lc32 : LCode :=
  (.seq (.region [⟨some 2, .mv (.const (.slice none 0 0)), none⟩]) (.seq (.region [⟨some 3, .lit false 3 1 [], none⟩, ⟨some 4, .mv (.tmp 0), none⟩, ⟨some 5, .append false 3 1 8
    (.tmp 3) (.tmp 4), none⟩, ⟨some 2, .mv (.tmp 5), none⟩]) .ret))
theorem low32 : lowF Tryz.prog [] Tryz.f32 = some (6, lc32.strip, [.tmp 2]) := by kernel_rfl
theorem fn32 : FnOk Tryz.prog 32 6 lc32 [.tmp 2] := ⟨Tryz.call32, [], _, Tryz.func32, low32⟩
/-- moonpool/moonpoolbase.Within -/
def lc46 : LCode :=
  (.seq (.region [⟨some 6, .mv (.const (.bool false)), none⟩]) (.seq (.region [⟨some 7, .mv (.tmp 1), none⟩, ⟨some 8, .mv (.tmp 0), none⟩, ⟨some 9, .bin .leq (.tmp 7) (.tmp 8),
    none⟩, ⟨some 10, .mv (.tmp 9), none⟩, ⟨some 11, .mv (.tmp 0), some (10, true)⟩, ⟨some 12, .mv (.tmp 2), some (10, true)⟩, ⟨some 13, .bin .leq (.tmp 11) (.tmp 12), some (10,
    true)⟩, ⟨some 14, .pick (.tmp 10) (.tmp 13) (.const (.bool false)), none⟩, ⟨some 6, .mv (.tmp 14), none⟩]) .ret))
theorem low46 : lowF Tryz.prog [] Tryz.f46 = some (15, lc46.strip, [.tmp 6]) := by kernel_rfl
theorem fn46 : FnOk Tryz.prog 46 15 lc46 [.tmp 6] := ⟨Tryz.call46, [], _, Tryz.func46, low46⟩
/-- moonpool/moonpooltop.cableShown -/
def lc47 : LCode :=
  (.seq (.region [⟨some 0, .mv (.const (.bool false)), none⟩]) (.seq (.region [⟨some 6, .call (.func 85) [], none⟩, ⟨some 7, .call (.func 86) [], none⟩, ⟨some 8, .call (.func 52)
    [(.tmp 6), (.tmp 7)], none⟩, ⟨some 5, .mv (.tmp 8), none⟩, ⟨some 9, .ext (.tmp 5) 0, none⟩, ⟨some 10, .ext (.tmp 5) 1, none⟩, ⟨some 1, .mv (.tmp 9), none⟩, ⟨some 2, .mv (.tmp
    10), none⟩]) (.seq (.region [⟨some 12, .call (.func 85) [], none⟩, ⟨some 13, .call (.func 88) [], none⟩, ⟨some 14, .call (.func 56) [(.tmp 12), (.tmp 13)], none⟩, ⟨some 11, .mv
    (.tmp 14), none⟩, ⟨some 15, .ext (.tmp 11) 0, none⟩, ⟨some 16, .ext (.tmp 11) 1, none⟩, ⟨some 3, .mv (.tmp 15), none⟩, ⟨some 4, .mv (.tmp 16), none⟩]) (.seq (.region [⟨some 17,
    .mv (.tmp 2), none⟩, ⟨some 18, .bin .eql (.tmp 17) (.const (.int .i64 0)), none⟩, ⟨some 19, .mv (.tmp 18), none⟩, ⟨some 20, .mv (.tmp 1), some (19, true)⟩, ⟨some 21, .build
    [(.int .i64 0), (.int .i64 0)] [(0, 1, (.const (.int .i64 12))), (1, 1, (.const (.int .i64 120)))], some (19, true)⟩, ⟨some 22, .build [(.int .i64 0), (.int .i64 0)] [(0, 1,
    (.const (.int .i64 2))), (1, 1, (.const (.int .i64 100)))], some (19, true)⟩, ⟨some 23, .build [(.int .i64 0), (.int .i64 0)] [(0, 1, (.const (.int .i64 2))), (1, 1, (.const
    (.int .i64 100)))], some (19, true)⟩, ⟨some 24, .lit false 23 2 [(.tmp 21), (.tmp 22), (.tmp 23)], some (19, true)⟩, ⟨some 25, .call (.func 91) [(.tmp 20), (.tmp 24)], some (19,
    true)⟩, ⟨some 26, .pick (.tmp 19) (.tmp 25) (.const (.bool false)), none⟩, ⟨some 27, .mv (.tmp 26), none⟩, ⟨some 28, .mv (.tmp 4), some (27, true)⟩, ⟨some 29, .bin .eql (.tmp
    28) (.const (.int .i64 0)), some (27, true)⟩, ⟨some 30, .pick (.tmp 27) (.tmp 29) (.const (.bool false)), none⟩, ⟨some 31, .mv (.tmp 30), none⟩, ⟨some 32, .mv (.tmp 3), some
    (31, true)⟩, ⟨some 33, .bin .eql (.tmp 32) (.const (.int .i64 28)), some (31, true)⟩, ⟨some 34, .pick (.tmp 31) (.tmp 33) (.const (.bool false)), none⟩, ⟨some 0, .mv (.tmp 34),
    none⟩]) .ret))))
theorem low47 : lowF Tryz.prog [] Tryz.f47 = some (35, lc47.strip, [.tmp 0]) := by kernel_rfl
theorem fn47 : FnOk Tryz.prog 47 35 lc47 [.tmp 0] := ⟨Tryz.call47, [], _, Tryz.func47, low47⟩
def ra48 : LCode :=
  (.region [⟨some 10, .alloc [(.int .i64 0), (.int .i64 0), (.int .i64 0), (.int .i64 0)], none⟩, ⟨none, .store 4 (.tmp 10) (.tmp 25), none⟩])
def rb48 : LCode :=
  (.block 1 (.seq (.regionD [⟨some 26, .fld 0 (.tmp 10), none⟩, ⟨some 27, .fld 0 (.tmp 26), none⟩, ⟨some 28, .load false 1 (.tmp 27), none⟩, ⟨some 29, .fld 0 (.tmp 10), none⟩, ⟨some
    30, .fld 1 (.tmp 29), none⟩, ⟨some 31, .load false 1 (.tmp 30), none⟩, ⟨some 32, .un .neg (.tmp 31), none⟩, ⟨some 33, .mm true [(.tmp 28), (.tmp 32), (.const (.int .i64 0))],
    none⟩, ⟨some 34, .fld 0 (.tmp 10), none⟩, ⟨some 35, .fld 0 (.tmp 34), none⟩, ⟨some 36, .load false 1 (.tmp 35), none⟩, ⟨some 37, .un .neg (.tmp 36), none⟩, ⟨some 38, .fld 0
    (.tmp 10), none⟩, ⟨some 39, .fld 1 (.tmp 38), none⟩, ⟨some 40, .load false 1 (.tmp 39), none⟩, ⟨some 41, .mm true [(.tmp 37), (.tmp 40)], none⟩, ⟨some 11, .mv (.tmp 33), none⟩,
    ⟨some 12, .mv (.tmp 41), none⟩] [0, 1, 3, 0, 8, 24, 56, 127, 0, 256, 768, 1792, 0, 4096, 12288, 32512, 255, 131071] [0, 1, 2, 3, 4, 5, 6, 7, 8, 9, 10, 11, 12, 13, 14, 15, 16,
    17]) (.region [⟨some 42, .load false 1 (.tmp 8), none⟩, ⟨some 43, .mv (.tmp 11), none⟩, ⟨some 44, .mv (.tmp 11), none⟩, ⟨some 45, .bin .mul (.tmp 43) (.tmp 44), none⟩, ⟨some 46,
    .fld 2 (.tmp 10), none⟩, ⟨some 47, .load false 1 (.tmp 46), none⟩, ⟨some 48, .fld 2 (.tmp 10), none⟩, ⟨some 49, .load false 1 (.tmp 48), none⟩, ⟨some 50, .bin .mul (.tmp 47)
    (.tmp 49), none⟩, ⟨some 51, .bin .add (.tmp 45) (.tmp 50), none⟩, ⟨some 52, .mv (.tmp 12), none⟩, ⟨some 53, .mv (.tmp 12), none⟩, ⟨some 54, .bin .mul (.tmp 52) (.tmp 53), none⟩,
    ⟨some 55, .fld 2 (.tmp 10), none⟩, ⟨some 56, .load false 1 (.tmp 55), none⟩, ⟨some 57, .fld 2 (.tmp 10), none⟩, ⟨some 58, .load false 1 (.tmp 57), none⟩, ⟨some 59, .bin .mul
    (.tmp 56) (.tmp 58), none⟩, ⟨some 60, .bin .add (.tmp 54) (.tmp 59), none⟩, ⟨some 61, .build [(.int .i64 0), (.int .i64 0)] [(0, 1, (.tmp 51)), (1, 1, (.tmp 60))], none⟩, ⟨some
    62, .lit false 82 2 [(.tmp 61)], none⟩, ⟨some 63, .append true 82 2 16 (.tmp 42) (.tmp 62), none⟩, ⟨none, .store 1 (.tmp 8) (.tmp 63), none⟩])))
/-- moonpool/cable.SquaresIn -/
def lc48 : LCode :=
  (.seq (.region [⟨some 2, .box (.tmp 0), none⟩, ⟨some 4, .mv (.const (.slice none 0 0)), none⟩, ⟨some 5, .mv (.const (.int .i64 0)), none⟩]) (.seq (.region [⟨some 14, .load true 3
    (.tmp 2), none⟩, ⟨some 15, .mv (.tmp 1), none⟩, ⟨some 16, .call (.func 120) [(.tmp 14), (.tmp 15)], none⟩, ⟨some 13, .mv (.tmp 16), none⟩, ⟨some 17, .ext (.tmp 13) 0, none⟩,
    ⟨some 18, .ext (.tmp 13) 1, none⟩, ⟨some 6, .alloc [(.int .i64 0), (.int .i64 0), (.slice none 0 0), (.slice none 0 0)], none⟩, ⟨none, .store 4 (.tmp 6) (.tmp 17), none⟩, ⟨some
    7, .mv (.tmp 18), none⟩]) (.seq (.seq (.region [⟨some 19, .mv (.tmp 7), none⟩, ⟨some 20, .bin .neq (.tmp 19) (.const (.int .i64 0)), none⟩]) (.cond (.tmp 20) (.seq (.region
    [⟨some 21, .mv (.tmp 7), none⟩, ⟨some 4, .mv (.const (.slice none 0 0)), none⟩, ⟨some 5, .mv (.tmp 21), none⟩]) .ret) .skip)) (.seq (.region [⟨some 8, .alloc [(.slice none 0
    0)], none⟩]) (.seq (.seq (.region [⟨some 22, .load true 4 (.tmp 6), none⟩, ⟨some 23, .call (.func 121) [(.tmp 22)], none⟩]) (.block 0 (.rangeFunc (.tmp 23) [24, 25] ra48 rb48)))
    (.seq (.region [⟨some 64, .load false 1 (.tmp 8), none⟩, ⟨some 4, .mv (.tmp 64), none⟩, ⟨some 5, .mv (.const (.int .i64 0)), none⟩]) .ret))))))
theorem low48 : lowF Tryz.prog [63] Tryz.f48 = some (65, lc48.strip, [.tmp 4, .tmp 5]) := by kernel_rfl
theorem fn48 : FnOk Tryz.prog 48 65 lc48 [.tmp 4, .tmp 5] := ⟨Tryz.call48, [63], _, Tryz.func48, low48⟩
/-- moonpool/moonpoolbase.Mod -/
def lc49 : LCode :=
  (.seq (.region [⟨some 4, .mv (.const (.int .i64 0)), none⟩]) (.seq (.region [⟨some 5, .mv (.tmp 0), none⟩, ⟨some 6, .mv (.tmp 1), none⟩, ⟨some 7, .bin .rem (.tmp 5) (.tmp 6),
    none⟩, ⟨some 0, .mv (.tmp 7), none⟩]) (.seq (.seq (.region [⟨some 8, .mv (.tmp 0), none⟩, ⟨some 9, .bin .lss (.tmp 8) (.const (.int .i64 0)), none⟩]) (.cond (.tmp 9) (.region
    [⟨some 10, .mv (.tmp 0), none⟩, ⟨some 11, .mv (.tmp 1), none⟩, ⟨some 12, .bin .add (.tmp 10) (.tmp 11), none⟩, ⟨some 0, .mv (.tmp 12), none⟩]) .skip)) (.seq (.region [⟨some 13,
    .mv (.tmp 0), none⟩, ⟨some 4, .mv (.tmp 13), none⟩]) .ret))))
theorem low49 : lowF Tryz.prog [] Tryz.f49 = some (14, lc49.strip, [.tmp 4]) := by kernel_rfl
theorem fn49 : FnOk Tryz.prog 49 14 lc49 [.tmp 4] := ⟨Tryz.call49, [], _, Tryz.func49, low49⟩
/-- moonpool/moonpoolbase.RootUp -/
def lc50 : LCode :=
  (.seq (.region [⟨some 2, .mv (.const (.int .i64 0)), none⟩]) (.seq (.region [⟨some 4, .mv (.tmp 0), none⟩, ⟨some 5, .call (.func 122) [(.tmp 4)], none⟩, ⟨some 3, .mv (.tmp 5),
    none⟩]) (.seq (.seq (.region [⟨some 6, .mv (.tmp 3), none⟩, ⟨some 7, .mv (.tmp 3), none⟩, ⟨some 8, .bin .mul (.tmp 6) (.tmp 7), none⟩, ⟨some 9, .mv (.tmp 0), none⟩, ⟨some 10,
    .bin .lss (.tmp 8) (.tmp 9), none⟩]) (.cond (.tmp 10) (.region [⟨some 11, .mv (.tmp 3), none⟩, ⟨some 12, .bin .add (.tmp 11) (.const (.int .i64 1)), none⟩, ⟨some 3, .mv (.tmp
    12), none⟩]) .skip)) (.seq (.region [⟨some 13, .mv (.tmp 3), none⟩, ⟨some 2, .mv (.tmp 13), none⟩]) .ret))))
theorem low50 : lowF Tryz.prog [] Tryz.f50 = some (14, lc50.strip, [.tmp 2]) := by kernel_rfl
theorem fn50 : FnOk Tryz.prog 50 14 lc50 [.tmp 2] := ⟨Tryz.call50, [], _, Tryz.func50, low50⟩
/-- moonpool/cable.BrokenIn -/
def lc51 : LCode :=
  (.seq (.region [⟨some 3, .box (.tmp 0), none⟩, ⟨some 6, .mv (.const (.slice none 0 0)), none⟩, ⟨some 7, .mv (.const (.int .i64 0)), none⟩]) (.seq (.region [⟨some 16, .load true 3
    (.tmp 3), none⟩, ⟨some 17, .mv (.tmp 1), none⟩, ⟨some 18, .call (.func 123) [(.tmp 16), (.tmp 17)], none⟩, ⟨some 15, .mv (.tmp 18), none⟩, ⟨some 19, .ext (.tmp 15) 0, none⟩,
    ⟨some 20, .ext (.tmp 15) 1, none⟩, ⟨some 8, .alloc [(.int .i64 0), (.int .i64 0), (.slice none 0 0), (.slice none 0 0)], none⟩, ⟨none, .store 4 (.tmp 8) (.tmp 19), none⟩, ⟨some
    9, .mv (.tmp 20), none⟩]) (.seq (.seq (.region [⟨some 21, .mv (.tmp 9), none⟩, ⟨some 22, .mv (.tmp 2), none⟩, ⟨some 23, .len (.tmp 22), none⟩, ⟨some 24, .fld 2 (.tmp 3), none⟩,
    ⟨some 25, .load false 1 (.tmp 24), none⟩, ⟨some 26, .len (.tmp 25), none⟩, ⟨some 27, .bin .eql (.tmp 23) (.tmp 26), none⟩, ⟨some 28, .call (.func 125) [(.tmp 27), (.const (.int
    .i64 10))], none⟩, ⟨some 29, .lit false 34 1 [(.tmp 21), (.tmp 28)], none⟩, ⟨some 30, .call (.func 124) [(.tmp 29)], none⟩, ⟨some 9, .mv (.tmp 30), none⟩]) (.seq (.region [⟨some
    31, .mv (.tmp 9), none⟩, ⟨some 32, .bin .neq (.tmp 31) (.const (.int .i64 0)), none⟩]) (.cond (.tmp 32) (.seq (.region [⟨some 33, .mv (.tmp 9), none⟩, ⟨some 6, .mv (.const
    (.slice none 0 0)), none⟩, ⟨some 7, .mv (.tmp 33), none⟩]) .ret) .skip))) (.seq (.seq (.region [⟨some 35, .mv (.tmp 2), none⟩, ⟨some 36, .call (.func 126) [(.tmp 35), (.func
    127)], none⟩, ⟨some 34, .mv (.tmp 36), none⟩, ⟨some 37, .ext (.tmp 34) 0, none⟩, ⟨some 38, .ext (.tmp 34) 1, none⟩, ⟨some 10, .mv (.tmp 37), none⟩, ⟨some 11, .mv (.tmp 38),
    none⟩]) (.seq (.region [⟨some 39, .mv (.tmp 11), none⟩, ⟨some 40, .bin .neq (.tmp 39) (.const (.int .i64 0)), none⟩]) (.cond (.tmp 40) (.seq (.region [⟨some 41, .mv (.tmp 11),
    none⟩, ⟨some 6, .mv (.const (.slice none 0 0)), none⟩, ⟨some 7, .mv (.tmp 41), none⟩]) .ret) .skip))) (.seq (.region [⟨some 12, .mv (.const (.slice none 0 0)), none⟩]) (.seq
    (.seq (.region [⟨some 42, .load true 4 (.tmp 8), none⟩, ⟨some 43, .call (.func 129) [(.tmp 42)], none⟩, ⟨some 44, .len (.tmp 43), none⟩, ⟨some 45, .mv (.const (.int .i64 0)),
    none⟩]) (.block 0 (.loop (.seq (.region [⟨some 46, .bin .lss (.tmp 45) (.tmp 44), none⟩]) (.seq (.cond (.tmp 46) .skip (.exit 0)) (.seq (.block 1 (.seq (.region [⟨some 47, .mv
    (.tmp 45), none⟩, ⟨some 48, .idx 2 (.tmp 43) (.tmp 45), none⟩, ⟨some 49, .load true 2 (.tmp 48), none⟩, ⟨some 14, .alloc [(.int .i64 0), (.int .i64 0)], none⟩, ⟨some 13, .mv
    (.tmp 47), none⟩, ⟨none, .store 2 (.tmp 14) (.tmp 49), none⟩]) (.seq (.regionD [⟨some 50, .load true 2 (.tmp 14), none⟩, ⟨some 51, .call (.func 130) [(.tmp 50)], none⟩, ⟨some
    52, .mv (.tmp 2), none⟩, ⟨some 53, .mv (.tmp 13), none⟩, ⟨some 54, .idx 1 (.tmp 52) (.tmp 53), none⟩, ⟨some 55, .load false 1 (.tmp 54), none⟩, ⟨some 56, .mv (.tmp 2), none⟩,
    ⟨some 57, .mv (.tmp 13), none⟩, ⟨some 58, .idx 1 (.tmp 56) (.tmp 57), none⟩, ⟨some 59, .load false 1 (.tmp 58), none⟩, ⟨some 60, .bin .mul (.tmp 55) (.tmp 59), none⟩, ⟨some 61,
    .bin .gtr (.tmp 51) (.tmp 60), none⟩] [0, 1, 0, 0, 12, 28, 0, 0, 192, 448, 1020, 2047] [0, 1, 2, 3, 4, 5, 6, 7, 8, 9, 10, 11]) (.cond (.tmp 61) (.region [⟨some 62, .mv (.tmp
    12), none⟩, ⟨some 63, .mv (.tmp 13), none⟩, ⟨some 64, .lit false 3 1 [(.tmp 63)], none⟩, ⟨some 65, .append true 3 1 8 (.tmp 62) (.tmp 64), none⟩, ⟨some 12, .mv (.tmp 65),
    none⟩]) .skip)))) (.region [⟨some 66, .bin .add (.tmp 45) (.const (.int .i64 1)), none⟩, ⟨some 45, .mv (.tmp 66), none⟩]))))))) (.seq (.region [⟨some 67, .mv (.tmp 12), none⟩,
    ⟨some 6, .mv (.tmp 67), none⟩, ⟨some 7, .mv (.const (.int .i64 0)), none⟩]) .ret)))))))
theorem low51 : lowF Tryz.prog [65] Tryz.f51 = some (68, lc51.strip, [.tmp 6, .tmp 7]) := by kernel_rfl
theorem fn51 : FnOk Tryz.prog 51 68 lc51 [.tmp 6, .tmp 7] := ⟨Tryz.call51, [65], _, Tryz.func51, low51⟩
/-- moonpool/cable.TensionsOf -/
def lc52 : LCode :=
  (.seq (.region [⟨some 2, .box (.tmp 0), none⟩, ⟨some 4, .mv (.const (.slice none 0 0)), none⟩, ⟨some 5, .mv (.const (.int .i64 0)), none⟩]) (.seq (.region [⟨some 9, .load true 3
    (.tmp 2), none⟩, ⟨some 10, .mv (.tmp 1), none⟩, ⟨some 11, .call (.func 123) [(.tmp 9), (.tmp 10)], none⟩, ⟨some 8, .mv (.tmp 11), none⟩, ⟨some 12, .ext (.tmp 8) 0, none⟩, ⟨some
    13, .ext (.tmp 8) 1, none⟩, ⟨some 6, .alloc [(.int .i64 0), (.int .i64 0), (.slice none 0 0), (.slice none 0 0)], none⟩, ⟨none, .store 4 (.tmp 6) (.tmp 12), none⟩, ⟨some 7, .mv
    (.tmp 13), none⟩]) (.seq (.seq (.region [⟨some 14, .mv (.tmp 7), none⟩, ⟨some 15, .bin .neq (.tmp 14) (.const (.int .i64 0)), none⟩]) (.cond (.tmp 15) (.seq (.region [⟨some 16,
    .mv (.tmp 7), none⟩, ⟨some 4, .mv (.const (.slice none 0 0)), none⟩, ⟨some 5, .mv (.tmp 16), none⟩]) .ret) .skip)) (.seq (.region [⟨some 17, .load true 4 (.tmp 6), none⟩, ⟨some
    18, .call (.func 129) [(.tmp 17)], none⟩, ⟨some 4, .mv (.tmp 18), none⟩, ⟨some 5, .mv (.const (.int .i64 0)), none⟩]) .ret))))
theorem low52 : lowF Tryz.prog [] Tryz.f52 = some (19, lc52.strip, [.tmp 4, .tmp 5]) := by kernel_rfl
theorem fn52 : FnOk Tryz.prog 52 19 lc52 [.tmp 4, .tmp 5] := ⟨Tryz.call52, [], _, Tryz.func52, low52⟩
/-- moonpool/cable.StrongestIn -/
def lc53 : LCode :=
  (.seq (.region [⟨some 2, .box (.tmp 0), none⟩, ⟨some 4, .mv (.const (.int .i64 0)), none⟩, ⟨some 5, .mv (.const (.int .i64 0)), none⟩, ⟨some 6, .mv (.const (.int .i64 0)), none⟩])
    (.seq (.region [⟨some 15, .load true 3 (.tmp 2), none⟩, ⟨some 16, .mv (.tmp 1), none⟩, ⟨some 17, .call (.func 123) [(.tmp 15), (.tmp 16)], none⟩, ⟨some 14, .mv (.tmp 17), none⟩,
    ⟨some 18, .ext (.tmp 14) 0, none⟩, ⟨some 19, .ext (.tmp 14) 1, none⟩, ⟨some 7, .alloc [(.int .i64 0), (.int .i64 0), (.slice none 0 0), (.slice none 0 0)], none⟩, ⟨none, .store
    4 (.tmp 7) (.tmp 18), none⟩, ⟨some 8, .mv (.tmp 19), none⟩]) (.seq (.seq (.region [⟨some 20, .mv (.tmp 8), none⟩, ⟨some 21, .bin .neq (.tmp 20) (.const (.int .i64 0)), none⟩])
    (.cond (.tmp 21) (.seq (.region [⟨some 22, .mv (.tmp 8), none⟩, ⟨some 4, .mv (.const (.int .i64 0)), none⟩, ⟨some 5, .mv (.const (.int .i64 0)), none⟩, ⟨some 6, .mv (.tmp 22),
    none⟩]) .ret) .skip)) (.seq (.region [⟨some 9, .mv (.const (.int .i64 0)), none⟩, ⟨some 10, .mv (.const (.int .i64 (-1))), none⟩]) (.seq (.seq (.region [⟨some 23, .load true 4
    (.tmp 7), none⟩, ⟨some 24, .call (.func 129) [(.tmp 23)], none⟩, ⟨some 25, .len (.tmp 24), none⟩, ⟨some 26, .mv (.const (.int .i64 0)), none⟩]) (.block 0 (.loop (.seq (.region
    [⟨some 27, .bin .lss (.tmp 26) (.tmp 25), none⟩]) (.seq (.cond (.tmp 27) .skip (.exit 0)) (.seq (.block 1 (.seq (.region [⟨some 28, .mv (.tmp 26), none⟩, ⟨some 29, .idx 2 (.tmp
    24) (.tmp 26), none⟩, ⟨some 30, .load true 2 (.tmp 29), none⟩, ⟨some 12, .alloc [(.int .i64 0), (.int .i64 0)], none⟩, ⟨some 11, .mv (.tmp 28), none⟩, ⟨none, .store 2 (.tmp 12)
    (.tmp 30), none⟩]) (.seq (.region [⟨some 31, .load true 2 (.tmp 12), none⟩, ⟨some 32, .call (.func 130) [(.tmp 31)], none⟩, ⟨some 13, .mv (.tmp 32), none⟩]) (.seq (.region
    [⟨some 33, .mv (.tmp 13), none⟩, ⟨some 34, .mv (.tmp 10), none⟩, ⟨some 35, .bin .gtr (.tmp 33) (.tmp 34), none⟩]) (.cond (.tmp 35) (.region [⟨some 36, .mv (.tmp 11), none⟩,
    ⟨some 37, .mv (.tmp 13), none⟩, ⟨some 9, .mv (.tmp 36), none⟩, ⟨some 10, .mv (.tmp 37), none⟩]) .skip))))) (.region [⟨some 38, .bin .add (.tmp 26) (.const (.int .i64 1)), none⟩,
    ⟨some 26, .mv (.tmp 38), none⟩]))))))) (.seq (.region [⟨some 39, .mv (.tmp 9), none⟩, ⟨some 40, .mv (.tmp 10), none⟩, ⟨some 4, .mv (.tmp 39), none⟩, ⟨some 5, .mv (.tmp 40),
    none⟩, ⟨some 6, .mv (.const (.int .i64 0)), none⟩]) .ret))))))
theorem low53 : lowF Tryz.prog [] Tryz.f53 = some (41, lc53.strip, [.tmp 4, .tmp 5, .tmp 6]) := by kernel_rfl
theorem fn53 : FnOk Tryz.prog 53 41 lc53 [.tmp 4, .tmp 5, .tmp 6] := ⟨Tryz.call53, [], _, Tryz.func53, low53⟩
/-- moonpool/moonpoolbase.Size -/
def lc54 : LCode :=
  (.seq (.region [⟨some 2, .mv (.const (.int .i64 0)), none⟩]) (.seq (.region [⟨some 3, .mv (.tmp 0), none⟩, ⟨some 4, .mv (.tmp 0), none⟩, ⟨some 5, .un .neg (.tmp 4), none⟩, ⟨some
    6, .mm true [(.tmp 3), (.tmp 5)], none⟩, ⟨some 2, .mv (.tmp 6), none⟩]) .ret))
theorem low54 : lowF Tryz.prog [] Tryz.f54 = some (7, lc54.strip, [.tmp 2]) := by kernel_rfl
theorem fn54 : FnOk Tryz.prog 54 7 lc54 [.tmp 2] := ⟨Tryz.call54, [], _, Tryz.func54, low54⟩
/-- moonpool/cable.ContradictionOf -/
def lc55 : LCode :=
  (.seq (.region [⟨some 3, .box (.tmp 0), none⟩, ⟨some 6, .mv (.const (.slice none 0 0)), none⟩, ⟨some 7, .mv (.const (.int .i64 0)), none⟩]) (.seq (.region [⟨some 15, .load true 3
    (.tmp 3), none⟩, ⟨some 16, .mv (.tmp 1), none⟩, ⟨some 17, .mv (.tmp 2), none⟩, ⟨some 18, .call (.func 131) [(.tmp 15), (.tmp 16), (.tmp 17)], none⟩, ⟨some 14, .mv (.tmp 18),
    none⟩, ⟨some 19, .ext (.tmp 14) 0, none⟩, ⟨some 20, .ext (.tmp 14) 1, none⟩, ⟨some 8, .alloc [(.int .i64 0), (.int .i64 0), (.slice none 0 0), (.slice none 0 0)], none⟩, ⟨none,
    .store 4 (.tmp 8) (.tmp 19), none⟩, ⟨some 9, .mv (.tmp 20), none⟩]) (.seq (.seq (.region [⟨some 21, .mv (.tmp 9), none⟩, ⟨some 22, .bin .neq (.tmp 21) (.const (.int .i64 0)),
    none⟩]) (.cond (.tmp 22) (.seq (.region [⟨some 23, .mv (.tmp 9), none⟩, ⟨some 6, .mv (.const (.slice none 0 0)), none⟩, ⟨some 7, .mv (.tmp 23), none⟩]) .ret) .skip)) (.seq (.seq
    (.region [⟨some 24, .mv (.tmp 2), none⟩, ⟨some 25, .mkfn 133 [(.tmp 8)], none⟩, ⟨some 26, .call (.func 132) [(.tmp 24), (.tmp 25)], none⟩, ⟨some 10, .mv (.tmp 26), none⟩]) (.seq
    (.region [⟨some 27, .mv (.tmp 10), none⟩, ⟨some 28, .bin .geq (.tmp 27) (.const (.int .i64 0)), none⟩]) (.cond (.tmp 28) (.seq (.region [⟨some 29, .mv (.tmp 10), none⟩, ⟨some
    30, .lit false 3 1 [(.tmp 29)], none⟩, ⟨some 6, .mv (.tmp 30), none⟩, ⟨some 7, .mv (.const (.int .i64 0)), none⟩]) .ret) .skip))) (.seq (.seq (.region [⟨some 31, .mv (.tmp 2),
    none⟩, ⟨some 32, .len (.tmp 31), none⟩, ⟨some 33, .mv (.const (.int .i64 0)), none⟩]) (.block 0 (.loop (.seq (.region [⟨some 34, .bin .lss (.tmp 33) (.tmp 32), none⟩]) (.seq
    (.cond (.tmp 34) .skip (.exit 0)) (.seq (.block 1 (.seq (.region [⟨some 35, .mv (.tmp 33), none⟩, ⟨some 36, .idx 3 (.tmp 31) (.tmp 33), none⟩, ⟨some 37, .load true 3 (.tmp 36),
    none⟩, ⟨some 12, .alloc [(.int .i64 0), (.int .i64 0), (.int .i64 0)], none⟩, ⟨some 11, .mv (.tmp 35), none⟩, ⟨none, .store 3 (.tmp 12) (.tmp 37), none⟩]) (.seq (.region [⟨some
    38, .mv (.tmp 11), none⟩, ⟨some 39, .bin .add (.tmp 38) (.const (.int .i64 1)), none⟩, ⟨some 13, .mv (.tmp 39), none⟩]) (.block 2 (.loop (.seq (.seq (.region [⟨some 40, .mv
    (.tmp 13), none⟩, ⟨some 41, .mv (.tmp 2), none⟩, ⟨some 42, .len (.tmp 41), none⟩, ⟨some 43, .bin .lss (.tmp 40) (.tmp 42), none⟩]) (.cond (.tmp 43) .skip (.exit 2))) (.seq
    (.block 3 (.seq (.regionD [⟨some 46, .load true 4 (.tmp 8), none⟩, ⟨some 47, .load true 3 (.tmp 12), none⟩, ⟨some 48, .mv (.tmp 2), none⟩, ⟨some 49, .mv (.tmp 13), none⟩, ⟨some
    50, .idx 3 (.tmp 48) (.tmp 49), none⟩, ⟨some 51, .load true 3 (.tmp 50), none⟩, ⟨some 52, .call (.func 135) [(.tmp 46), (.tmp 47), (.tmp 51)], none⟩, ⟨some 53, .bin .gtr (.tmp
    52) (.const (.int .i64 0)), none⟩] [0, 0, 0, 0, 12, 28, 63, 127] [0, 1, 2, 3, 4, 5, 6, 7]) (.cond (.tmp 53) (.seq (.region [⟨some 54, .mv (.tmp 11), none⟩, ⟨some 55, .mv (.tmp
    13), none⟩, ⟨some 56, .lit false 3 1 [(.tmp 54), (.tmp 55)], none⟩, ⟨some 6, .mv (.tmp 56), none⟩, ⟨some 7, .mv (.const (.int .i64 0)), none⟩]) .ret) .skip))) (.region [⟨some
    44, .mv (.tmp 13), none⟩, ⟨some 45, .bin .add (.tmp 44) (.const (.int .i64 1)), none⟩, ⟨some 13, .mv (.tmp 45), none⟩])))))))) (.region [⟨some 57, .bin .add (.tmp 33) (.const
    (.int .i64 1)), none⟩, ⟨some 33, .mv (.tmp 57), none⟩]))))))) (.seq (.region [⟨some 6, .mv (.const (.slice none 0 0)), none⟩, ⟨some 7, .mv (.const (.int .i64 12)), none⟩])
    .ret))))))
theorem low55 : lowF Tryz.prog [] Tryz.f55 = some (58, lc55.strip, [.tmp 6, .tmp 7]) := by kernel_rfl
theorem fn55 : FnOk Tryz.prog 55 58 lc55 [.tmp 6, .tmp 7] := ⟨Tryz.call55, [], _, Tryz.func55, low55⟩
def ra56 : LCode :=
  (.region [⟨some 10, .alloc [(.int .i64 0), (.int .i64 0), (.int .i64 0), (.int .i64 0)], none⟩, ⟨none, .store 4 (.tmp 10) (.tmp 26), none⟩])
def rb56 : LCode :=
  (.block 1 (.regionD [⟨some 27, .load false 1 (.tmp 8), none⟩, ⟨some 28, .load true 4 (.tmp 10), none⟩, ⟨some 29, .fld 0 (.tmp 10), none⟩, ⟨some 30, .fld 0 (.tmp 29), none⟩, ⟨some
    31, .load false 1 (.tmp 30), none⟩, ⟨some 32, .un .neg (.tmp 31), none⟩, ⟨some 33, .fld 0 (.tmp 10), none⟩, ⟨some 34, .fld 1 (.tmp 33), none⟩, ⟨some 35, .load false 1 (.tmp 34),
    none⟩, ⟨some 36, .mm true [(.tmp 32), (.tmp 35)], none⟩, ⟨some 37, .call (.func 137) [(.tmp 28), (.tmp 36)], none⟩, ⟨some 38, .part false 1 1 (.tmp 37), none⟩, ⟨some 39, .bin
    .add (.tmp 27) (.tmp 38), none⟩, ⟨none, .store 1 (.tmp 8) (.tmp 39), none⟩] [0, 0, 0, 4, 12, 28, 0, 64, 192, 508, 1022, 2046, 4095, 8191] [0, 1, 2, 3, 4, 5, 6, 7, 8, 9, 10, 11,
    12, 13]))
/-- moonpool/cable.EnoughFor -/
def lc56 : LCode :=
  (.seq (.region [⟨some 2, .box (.tmp 0), none⟩, ⟨some 4, .mv (.const (.int .i64 0)), none⟩, ⟨some 5, .mv (.const (.int .i64 0)), none⟩]) (.seq (.region [⟨some 12, .load true 3
    (.tmp 2), none⟩, ⟨some 13, .mv (.tmp 1), none⟩, ⟨some 14, .call (.func 120) [(.tmp 12), (.tmp 13)], none⟩, ⟨some 15, .ext (.tmp 14) 0, none⟩, ⟨some 16, .ext (.tmp 14) 1, none⟩,
    ⟨some 17, .call (.func 136) [(.tmp 15), (.tmp 16)], none⟩, ⟨some 11, .mv (.tmp 17), none⟩, ⟨some 18, .ext (.tmp 11) 0, none⟩, ⟨some 19, .ext (.tmp 11) 1, none⟩, ⟨some 6, .alloc
    [(.int .i64 0), (.int .i64 0), (.slice none 0 0), (.slice none 0 0)], none⟩, ⟨none, .store 4 (.tmp 6) (.tmp 18), none⟩, ⟨some 7, .mv (.tmp 19), none⟩]) (.seq (.seq (.region
    [⟨some 20, .mv (.tmp 7), none⟩, ⟨some 21, .bin .neq (.tmp 20) (.const (.int .i64 0)), none⟩]) (.cond (.tmp 21) (.seq (.region [⟨some 22, .mv (.tmp 7), none⟩, ⟨some 4, .mv
    (.const (.int .i64 0)), none⟩, ⟨some 5, .mv (.tmp 22), none⟩]) .ret) .skip)) (.seq (.region [⟨some 8, .alloc [(.int .i64 0)], none⟩, ⟨none, .store 1 (.tmp 8) (.const (.int .i64
    0)), none⟩]) (.seq (.seq (.region [⟨some 23, .load true 4 (.tmp 6), none⟩, ⟨some 24, .call (.func 121) [(.tmp 23)], none⟩]) (.block 0 (.rangeFunc (.tmp 24) [25, 26] ra56 rb56)))
    (.seq (.region [⟨some 40, .load false 1 (.tmp 8), none⟩, ⟨some 4, .mv (.tmp 40), none⟩, ⟨some 5, .mv (.const (.int .i64 0)), none⟩]) .ret))))))
theorem low56 : lowF Tryz.prog [] Tryz.f56 = some (41, lc56.strip, [.tmp 4, .tmp 5]) := by kernel_rfl
theorem fn56 : FnOk Tryz.prog 56 41 lc56 [.tmp 4, .tmp 5] := ⟨Tryz.call56, [], _, Tryz.func56, low56⟩
def ra57 : LCode :=
  (.region [⟨some 10, .alloc [(.int .i64 0), (.int .i64 0), (.int .i64 0), (.int .i64 0)], none⟩, ⟨none, .store 4 (.tmp 10) (.tmp 28), none⟩])
def rb57 : LCode :=
  (.block 1 (.seq (.region [⟨some 29, .load true 4 (.tmp 10), none⟩, ⟨some 30, .fld 0 (.tmp 10), none⟩, ⟨some 31, .fld 0 (.tmp 30), none⟩, ⟨some 32, .load false 1 (.tmp 31), none⟩,
    ⟨some 33, .call (.func 137) [(.tmp 29), (.tmp 32)], none⟩, ⟨some 11, .alloc [(.int .i64 0), (.int .i64 0)], none⟩, ⟨none, .store 2 (.tmp 11) (.tmp 33), none⟩]) (.regionD [⟨some
    34, .fld 0 (.tmp 8), none⟩, ⟨some 35, .load false 1 (.tmp 34), none⟩, ⟨some 36, .fld 0 (.tmp 11), none⟩, ⟨some 37, .load false 1 (.tmp 36), none⟩, ⟨some 38, .bin .add (.tmp 35)
    (.tmp 37), none⟩, ⟨some 39, .fld 1 (.tmp 8), none⟩, ⟨some 40, .load false 1 (.tmp 39), none⟩, ⟨some 41, .fld 1 (.tmp 11), none⟩, ⟨some 42, .load false 1 (.tmp 41), none⟩, ⟨some
    43, .bin .add (.tmp 40) (.tmp 42), none⟩, ⟨some 44, .fld 0 (.tmp 8), none⟩, ⟨none, .store 1 (.tmp 44) (.tmp 38), none⟩, ⟨some 45, .fld 1 (.tmp 8), none⟩, ⟨none, .store 1 (.tmp
    45) (.tmp 43), none⟩] [0, 1, 0, 4, 15, 0, 32, 0, 128, 480, 127, 1151, 4095, 8191] [0, 1, 2, 3, 4, 5, 6, 7, 8, 9, 10, 11, 12, 13])))
/-- moonpool/cable.LengthOf -/
def lc57 : LCode :=
  (.seq (.region [⟨some 2, .box (.tmp 0), none⟩, ⟨some 4, .alloc [(.int .i64 0), (.int .i64 0)], none⟩, ⟨some 5, .mv (.const (.int .i64 0)), none⟩]) (.seq (.region [⟨some 13, .load
    true 3 (.tmp 2), none⟩, ⟨some 14, .mv (.tmp 1), none⟩, ⟨some 15, .call (.func 123) [(.tmp 13), (.tmp 14)], none⟩, ⟨some 16, .ext (.tmp 15) 0, none⟩, ⟨some 17, .ext (.tmp 15) 1,
    none⟩, ⟨some 18, .call (.func 136) [(.tmp 16), (.tmp 17)], none⟩, ⟨some 12, .mv (.tmp 18), none⟩, ⟨some 19, .ext (.tmp 12) 0, none⟩, ⟨some 20, .ext (.tmp 12) 1, none⟩, ⟨some 6,
    .alloc [(.int .i64 0), (.int .i64 0), (.slice none 0 0), (.slice none 0 0)], none⟩, ⟨none, .store 4 (.tmp 6) (.tmp 19), none⟩, ⟨some 7, .mv (.tmp 20), none⟩]) (.seq (.seq
    (.region [⟨some 21, .mv (.tmp 7), none⟩, ⟨some 22, .bin .neq (.tmp 21) (.const (.int .i64 0)), none⟩]) (.cond (.tmp 22) (.seq (.region [⟨some 23, .build [(.int .i64 0), (.int
    .i64 0)] [], none⟩, ⟨some 24, .mv (.tmp 7), none⟩, ⟨none, .store 2 (.tmp 4) (.tmp 23), none⟩, ⟨some 5, .mv (.tmp 24), none⟩]) .ret) .skip)) (.seq (.region [⟨some 8, .alloc
    [(.int .i64 0), (.int .i64 0)], none⟩]) (.seq (.seq (.region [⟨some 25, .load true 4 (.tmp 6), none⟩, ⟨some 26, .call (.func 121) [(.tmp 25)], none⟩]) (.block 0 (.rangeFunc
    (.tmp 26) [27, 28] ra57 rb57))) (.seq (.region [⟨some 46, .load true 2 (.tmp 8), none⟩, ⟨none, .store 2 (.tmp 4) (.tmp 46), none⟩, ⟨some 5, .mv (.const (.int .i64 0)), none⟩])
    .ret))))))
theorem low57 : lowF Tryz.prog [] Tryz.f57 = some (47, lc57.strip, [.cell 4 true 2, .tmp 5]) := by kernel_rfl
theorem fn57 : FnOk Tryz.prog 57 47 lc57 [.cell 4 true 2, .tmp 5] := ⟨Tryz.call57, [], _, Tryz.func57, low57⟩
end Go.Pw

set_option linter.unusedVariables false
set_option maxHeartbeats 2000000
set_option maxRecDepth 100000
namespace Go.Pw
open Go Go.Proofs
/-- moonpool/moonpoollaw01.Line -/
def lc85 : LCode :=
  (.seq (.region [⟨some 0, .alloc [(.int .i64 0), (.int .i64 0), (.slice none 0 0)], none⟩]) (.seq (.region [⟨some 1, .build [(.int .i64 0), (.int .i64 0)] [(1, 1, (.const (.int
    .i64 100)))], none⟩, ⟨some 2, .build [(.int .i64 0), (.int .i64 0), (.int .i64 0)] [(0, 1, (.const (.int .i64 10))), (1, 1, (.const (.int .i64 20))), (2, 1, (.const (.int .i64
    3)))], none⟩, ⟨some 3, .build [(.int .i64 0), (.int .i64 0), (.int .i64 0)] [(0, 1, (.const (.int .i64 10))), (1, 1, (.const (.int .i64 (-20)))), (2, 1, (.const (.int .i64
    5)))], none⟩, ⟨some 4, .build [(.int .i64 0), (.int .i64 0), (.int .i64 0)] [(0, 1, (.const (.int .i64 5)))], none⟩, ⟨some 5, .lit false 160 3 [(.tmp 2), (.tmp 3), (.tmp 4)],
    none⟩, ⟨some 6, .build [(.int .i64 0), (.int .i64 0), (.slice none 0 0)] [(0, 2, (.tmp 1)), (2, 1, (.tmp 5))], none⟩, ⟨none, .store 3 (.tmp 0) (.tmp 6), none⟩]) .ret))
theorem low85 : lowF Tryz.prog [] Tryz.f85 = some (7, lc85.strip, [.cell 0 true 3]) := by kernel_rfl
theorem fn85 : FnOk Tryz.prog 85 7 lc85 [.cell 0 true 3] := ⟨Tryz.call85, [], _, Tryz.func85, low85⟩
/-- moonpool/moonpoollaw01.Currents -/
def lc86 : LCode :=
  (.seq (.region [⟨some 0, .mv (.const (.slice none 0 0)), none⟩]) (.seq (.region [⟨some 1, .lit false 3 1 [(.const (.int .i64 4)), (.const (.int .i64 (-2))), (.const (.int .i64
    7))], none⟩, ⟨some 0, .mv (.tmp 1), none⟩]) .ret))
theorem low86 : lowF Tryz.prog [] Tryz.f86 = some (2, lc86.strip, [.tmp 0]) := by kernel_rfl
theorem fn86 : FnOk Tryz.prog 86 2 lc86 [.tmp 0] := ⟨Tryz.call86, [], _, Tryz.func86, low86⟩
/-- moonpool/moonpoollaw01.Box -/
def lc88 : LCode :=
  (.seq (.region [⟨some 0, .mv (.const (.slice none 0 0)), none⟩]) (.seq (.region [⟨some 1, .build [(.int .i64 0), (.int .i64 0)] [(0, 1, (.const (.int .i64 2))), (1, 1, (.const
    (.int .i64 4)))], none⟩, ⟨some 2, .build [(.int .i64 0), (.int .i64 0)] [(0, 1, (.const (.int .i64 (-2)))), (1, 1, (.const (.int .i64 0)))], none⟩, ⟨some 3, .build [(.int .i64
    0), (.int .i64 0)] [(0, 1, (.const (.int .i64 0))), (1, 1, (.const (.int .i64 9)))], none⟩, ⟨some 4, .lit false 82 2 [(.tmp 1), (.tmp 2), (.tmp 3)], none⟩, ⟨some 0, .mv (.tmp
    4), none⟩]) .ret))
theorem low88 : lowF Tryz.prog [] Tryz.f88 = some (5, lc88.strip, [.tmp 0]) := by kernel_rfl
theorem fn88 : FnOk Tryz.prog 88 5 lc88 [.tmp 0] := ⟨Tryz.call88, [], _, Tryz.func88, low88⟩
/-- moonpool/moonpoolref01.SameForces -/
def lc91 : LCode :=
  (.seq (.region [⟨some 4, .mv (.const (.bool false)), none⟩]) (.seq (.seq (.region [⟨some 6, .mv (.tmp 0), none⟩, ⟨some 7, .len (.tmp 6), none⟩, ⟨some 8, .mv (.tmp 1), none⟩, ⟨some
    9, .len (.tmp 8), none⟩, ⟨some 10, .bin .neq (.tmp 7) (.tmp 9), none⟩]) (.cond (.tmp 10) (.seq (.region [⟨some 4, .mv (.const (.bool false)), none⟩]) .ret) .skip)) (.seq (.seq
    (.region [⟨some 5, .mv (.const (.int .i64 0)), none⟩]) (.block 0 (.loop (.seq (.seq (.region [⟨some 11, .mv (.tmp 5), none⟩, ⟨some 12, .mv (.tmp 0), none⟩, ⟨some 13, .len (.tmp
    12), none⟩, ⟨some 14, .bin .lss (.tmp 11) (.tmp 13), none⟩]) (.cond (.tmp 14) .skip (.exit 0))) (.seq (.block 1 (.seq (.regionD [⟨some 17, .mv (.tmp 0), none⟩, ⟨some 18, .mv
    (.tmp 5), none⟩, ⟨some 19, .idx 2 (.tmp 17) (.tmp 18), none⟩, ⟨some 20, .load true 2 (.tmp 19), none⟩, ⟨some 21, .mv (.tmp 1), none⟩, ⟨some 22, .mv (.tmp 5), none⟩, ⟨some 23,
    .idx 2 (.tmp 21) (.tmp 22), none⟩, ⟨some 24, .load true 2 (.tmp 23), none⟩, ⟨some 25, .eqA true [false, false] (.tmp 20) (.tmp 24), none⟩] [0, 0, 3, 7, 0, 0, 48, 112, 255] [0,
    1, 2, 3, 4, 5, 6, 7, 8]) (.cond (.tmp 25) (.seq (.region [⟨some 4, .mv (.const (.bool false)), none⟩]) .ret) .skip))) (.region [⟨some 15, .mv (.tmp 5), none⟩, ⟨some 16, .bin
    .add (.tmp 15) (.const (.int .i64 1)), none⟩, ⟨some 5, .mv (.tmp 16), none⟩])))))) (.seq (.region [⟨some 4, .mv (.const (.bool true)), none⟩]) .ret))))
theorem low91 : lowF Tryz.prog [] Tryz.f91 = some (26, lc91.strip, [.tmp 4]) := by kernel_rfl
theorem fn91 : FnOk Tryz.prog 91 26 lc91 [.tmp 4] := ⟨Tryz.call91, [], _, Tryz.func91, low91⟩
end Go.Pw
