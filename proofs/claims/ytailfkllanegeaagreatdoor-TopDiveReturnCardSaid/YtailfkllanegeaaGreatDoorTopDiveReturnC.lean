/- Steps toward the row of this claim: part 3 of 6. Proved as named below, on no condition but those that each theorem states. -/
import Derived.Test.YtailfkllanegeaaGreatDoorTopDiveReturnB
import Derived.ProofKit
import Derived.Deep.Slices
import Derived.Test.YtailfkllanegeaaGreatDoorProg
set_option linter.unusedVariables false
namespace Go.Pw
open Go Go.RowKit
section
variable (P : Program) (N base : Nat) (M : List Nat)
def isLoad : LOp → Bool
  | .load _ _ _ => true
  | _ => false
theorem load_same {ev : Operand → V} {σ σ' : Store} {nx nx' : Nat} {op : LOp} {ob : Prop} {v : V} (hl : isLoad op = true) (h : xop ev σ nx op = some (ob, v, σ', nx')) : σ' = σ := by
  cases op with
  | load g n a =>
    simp only [xop] at h
    split at h
    · split at h
      · split at h
        · obtain ⟨_, h⟩ := tkc_some _ _ _ _ h; cases h; rfl
        · split at h <;> first | (cases h; rfl) | cases h
      · cases h
    · split at h
      · obtain ⟨_, h⟩ := tkd_some _ _ _ _ h; cases h; rfl
      · split at h <;> first | (cases h; rfl) | cases h
    · split at h
      · split at h
        · split at h
          · obtain ⟨_, h⟩ := tkd_some _ _ _ _ h; cases h; rfl
          · split at h <;> first | (cases h; rfl) | cases h
        · cases h
      · cases h
    · cases h
  | _ => simp [isLoad] at hl
def runID (i : LIns) (env : List (Nat × V)) (σ : Store) (nx : Nat) (p : Option Prop) (acc : List (Bool × List Nat)) (k : List (Nat × V) → Store → Nat → Option Prop → List (Bool × List Nat) → Prop) (stuck : Prop) : Prop :=
  match xop (evo env) (pickS σ (foot (evo env) i.op)) nx i.op with
  | some (ob, v, σ1, _) => match owes (evo env) i.op with
    | true => match foot (evo env) i.op, σ1 with
      | [], [] => frNat (nx + 1) fun nx' => putK i.dst v env fun env' => k env' σ nx' (andO p ob) ((true, []) :: acc)
      | ft, σ1 => frS (app (pickS σ ft) σ1 σ) fun σ' => frN (dom (pickS σ ft) ++ dom σ1) fun fp => frNat (nx + 1) fun nx' => putK i.dst v env fun env' => k env' σ' nx' (andO p ob) ((isLoad i.op, fp) :: acc)
    | false => match foot (evo env) i.op, σ1 with
      | [], [] => frNat (nx + 1) fun nx' => putK i.dst v env fun env' => k env' σ nx' p ((true, []) :: acc)
      | ft, σ1 => frS (app (pickS σ ft) σ1 σ) fun σ' => frN (dom (pickS σ ft) ++ dom σ1) fun fp => frNat (nx + 1) fun nx' => putK i.dst v env fun env' => k env' σ' nx' p ((isLoad i.op, fp) :: acc)
  | none => flush p stuck
abbrev OpsD' (ops : List LIns) (st : St) (acc : List (Bool × List Nat)) (K : St → Prop) : Prop := OpsD P N base M 0 [] ops st acc K
structure OpsDL (ops : List LIns) (st : St) (acc : List (Bool × List Nat)) (K : St → Prop) : Prop where
  h : OpsD P N base M 0 [] ops st acc K
def wpD : List LIns → List (Nat × V) → Store → Nat → Option Prop → List (Bool × List Nat) → (St → Prop) → Prop
  | [], env, σ, nx, p, acc, K => match fpAll M 0 acc.reverse with
    | true => flush p (K ⟨env, σ, nx⟩)
    | false => False
  | i :: os, env, σ, nx, p, acc, K => match guardOf env i.guard with
    | .run => runID i env σ nx p acc (fun env σ nx p acc => wpD os env σ nx p acc K) (OpsDL P N base M (i :: os) ⟨env, σ, nx⟩ acc K)
    | .skip => putK i.dst (.tup []) env fun env => wpD os env σ nx p ((true, []) :: acc) K
    | .stop => match i.guard with
      | some (t, want) => match lk env t with
        | .c (.d (.v (.bool b))) => match want with
          | true => flush p (Fork b (runID i ((t, .c .tru) :: env) σ nx none acc (fun env σ nx p acc => wpD os env σ nx p acc K) (OpsDL P N base M (i :: os) ⟨(t, .c .tru) :: env, σ, nx⟩ acc K))
              (putK i.dst (.tup []) ((t, .c .fls) :: env) fun env => wpD os env σ nx none ((true, []) :: acc) K))
          | false => flush p (Fork b (putK i.dst (.tup []) ((t, .c .tru) :: env) fun env => wpD os env σ nx none ((true, []) :: acc) K)
              (runID i ((t, .c .fls) :: env) σ nx none acc (fun env σ nx p acc => wpD os env σ nx p acc K) (OpsDL P N base M (i :: os) ⟨(t, .c .fls) :: env, σ, nx⟩ acc K)))
        | _ => flush p (OpsDL P N base M (i :: os) ⟨env, σ, nx⟩ acc K)
      | none => flush p (OpsDL P N base M (i :: os) ⟨env, σ, nx⟩ acc K)
variable {P N base M}
theorem runID_spec {i : LIns} {os : List LIns} {env : List (Nat × V)} {σ : Store} {nx : Nat} {p : Option Prop} {acc : List (Bool × List Nat)} {K : St → Prop} (hg : guardOf env i.guard = .run)
    (ih : ∀ env σ nx p acc, wpD P N base M os env σ nx p acc K → okO p ∧ OpsD' P N base M os ⟨env, σ, nx⟩ acc K)
    (h : runID i env σ nx p acc (fun env σ nx p acc => wpD P N base M os env σ nx p acc K) (OpsDL P N base M (i :: os) ⟨env, σ, nx⟩ acc K)) : okO p ∧ OpsD' P N base M (i :: os) ⟨env, σ, nx⟩ acc K := by
  unfold runID at h
  split at h
  · rename_i ob v σ1 nx1 hx
    simp only [frNat_eq, putK_eq, frS_eq, frN_eq] at h
    have hgo : ∀ (rd : Bool) p', (rd = true → σ1 = pickS σ (foot (evo env) i.op)) → wpD P N base M os (putE env i.dst v) (app (pickS σ (foot (evo env) i.op)) σ1 σ) (nx + 1) p' ((rd, dom (pickS σ (foot (evo env) i.op)) ++ dom σ1) :: acc) K → (okO p' → okO p ∧ ob) → okO p ∧ OpsD' P N base M (i :: os) ⟨env, σ, nx⟩ acc K := fun rd p' hrd h hp => by
      obtain ⟨h1, h2⟩ := ih _ _ _ _ _ h
      obtain ⟨h3, h4⟩ := hp h1
      exact ⟨h3, OpsD.step (k := 0) (st := ⟨env, σ, nx⟩) (VStep.xop hg hx h4) (pickS_sub _) (Nat.le_refl _) (Nat.le_succ _) rd hrd h2⟩
    split at h
    · split at h
      · rename_i hft
        have := fun p' => hgo true p' (fun _ => by rw [hft]; rfl)
        simp only [hft, pickS, app, catS, dom, delD, List.append_nil] at this
        exact this _ h okO_and
      · exact hgo _ _ (fun hl => load_same hl hx) h okO_and
    · rename_i hw
      split at h
      · rename_i hft
        have := fun p' => hgo true p' (fun _ => by rw [hft]; rfl)
        simp only [hft, pickS, app, catS, dom, delD, List.append_nil] at this
        exact this _ h fun hp => ⟨hp, owes_false hw hx⟩
      · exact hgo _ _ (fun hl => load_same hl hx) h fun hp => ⟨hp, owes_false hw hx⟩
  · exact ⟨(flush_iff h).1, (flush_iff h).2.h⟩
theorem OpsD.know' {ops : List LIns} {env : List (Nat × V)} {σ : Store} {nx : Nat} {acc : List (Bool × List Nat)} {K : St → Prop} (t : Nat) (b : Bool) (h : lk env t = vbl b) (hf : Fork b (OpsD' P N base M ops ⟨(t, .c .tru) :: env, σ, nx⟩ acc K) (OpsD' P N base M ops ⟨(t, .c .fls) :: env, σ, nx⟩ acc K)) : OpsD' P N base M ops ⟨env, σ, nx⟩ acc K :=
  OpsD.know (st := ⟨env, σ, nx⟩) t b h hf.t hf.f
theorem wpD_spec : ∀ (ops : List LIns) (env : List (Nat × V)) (σ : Store) (nx : Nat) (p : Option Prop) (acc : List (Bool × List Nat)) (K : St → Prop), wpD P N base M ops env σ nx p acc K → okO p ∧ OpsD' P N base M ops ⟨env, σ, nx⟩ acc K
  | [], env, σ, nx, p, acc, K, h => by
    unfold wpD at h
    split at h
    · rename_i hf
      obtain ⟨h1, h2⟩ := flush_iff h
      exact ⟨h1, OpsD.nil hf h2⟩
    · exact h.elim
  | i :: os, env, σ, nx, p, acc, K, h => by
    have ih := fun env σ nx p acc => wpD_spec os env σ nx p acc K
    have hskip : ∀ env, guardOf env i.guard = .skip → ∀ p, (putK i.dst (.tup []) env fun env => wpD P N base M os env σ nx p ((true, []) :: acc) K) → okO p ∧ OpsD' P N base M (i :: os) ⟨env, σ, nx⟩ acc K := fun env hg p h => by
      rw [putK_eq] at h
      obtain ⟨h1, h2⟩ := ih _ _ _ _ _ h
      exact ⟨h1, OpsD.step (k := 0) (σ0 := []) (σ1 := []) (st := ⟨env, σ, nx⟩) (VStep.skip (lo := nx) hg) (fun id e h => by simp [get] at h) (Nat.le_refl _) (Nat.le_refl _) true (fun _ => rfl) h2⟩
    unfold wpD at h
    split at h
    · rename_i hg; exact runID_spec hg ih h
    · rename_i hg; exact hskip env hg p h
    · rename_i hg
      split at h
      · rename_i t want hgu
        have gT : guardOf ((t, .c .tru) :: env) i.guard = (match want with | true => .run | false => .skip) := by
          cases want <;> simp [hgu, guardOf, lk_cons]
        have gF : guardOf ((t, .c .fls) :: env) i.guard = (match want with | true => .skip | false => .run) := by
          cases want <;> simp [hgu, guardOf, lk_cons]
        split at h
        · rename_i b hb
          split at h
          · obtain ⟨h1, h2⟩ := flush_iff h
            exact ⟨h1, OpsD.know' t b hb ⟨fun hh => (runID_spec gT ih (h2.t hh)).2, fun hh => (hskip _ gF _ (h2.f hh)).2⟩⟩
          · obtain ⟨h1, h2⟩ := flush_iff h
            exact ⟨h1, OpsD.know' t b hb ⟨fun hh => (hskip _ gT _ (h2.t hh)).2, fun hh => (runID_spec gF ih (h2.f hh)).2⟩⟩
        · exact ⟨(flush_iff h).1, (flush_iff h).2.h⟩
      · exact ⟨(flush_iff h).1, (flush_iff h).2.h⟩
theorem OpsD.wp {ops : List LIns} {env : List (Nat × V)} {σ : Store} {nx : Nat} {acc : List (Bool × List Nat)} {K : St → Prop} (h : wpD P N base M ops env σ nx none acc K) : OpsD' P N base M ops ⟨env, σ, nx⟩ acc K := (wpD_spec _ _ _ _ _ _ _ h).2
end
theorem Mv.nilms {base : Nat} {env : List (Nat × V)} {σ : Store} {nx : Nat} (t : Nat) (e : TypeId) (s : Nat) (f : Nat → List D) (h : lk env t = .c (.d (.v (.slice none 0 0)))) : Mv base ⟨env, σ, nx⟩ ⟨(t, .c (.ms nx 0)) :: env, (nx, .row e s 0 f false) :: σ, nx + 1⟩ :=
  fun _ _ _ _ _ hc => hc.nilms (st := ⟨env, σ, nx⟩) e s f h
theorem Mv.freeze {base : Nat} {env : List (Nat × V)} {σ : Store} {nx : Nat} (t id : Nat) {n : Nat} {e : TypeId} {s m : Nat} {f : Nat → List D} {fz : Bool} (h : lk env t = .c (.ms id n)) (hg : get σ id = some (.row e s m f fz)) (hn : n ≤ m) :
    Mv base ⟨env, σ, nx⟩ ⟨(t, .c (.d (.sl s n f))) :: env, set σ id (.row e s m f true), nx⟩ := fun N B0 Γ w a hc => by
  obtain ⟨Γ', b, hb, rfl, h1, h2⟩ := hc.freeze hg
  refine ⟨_, ⟨h1.size, fun t' => ?_, h1.ok, h1.free, h1.le, h1.dfs⟩, h2⟩
  rw [lk_cons]
  split
  · rename_i ht
    subst ht
    have := hc.env t
    rw [h] at this
    cases this with
    | c _ _ hr =>
      obtain ⟨b', hb', hd⟩ := ms_data hc.ok hg hn hr
      rw [hb] at hb'; cases hb'
      exact .c _ _ (hd _ (fun k hk => .inl hk) (fun hcc => .inr ⟨rfl, hcc⟩))
  · exact h1.env t'
theorem Mv.env {base : Nat} {env env' : List (Nat × V)} {σ : Store} {nx : Nat} (h : ∀ t, RI (lk env t) (lk env' t)) : Mv base ⟨env, σ, nx⟩ ⟨env', σ, nx⟩ := fun _ _ Γ _ _ hc => ⟨Γ, hc.same h fun _ => rfl, Ext.refl _ _ _ _⟩
theorem Mv.dd {base : Nat} {env : List (Nat × V)} {σ : Store} {nx : Nat} : Mv base ⟨env, σ, nx⟩ ⟨Pw.dd env [], σ, nx⟩ :=
  Mv.env fun t => by rw [lk_dd _ _ _ (by simp)]; exact RI.refl _
structure MvQ (base : Nat) (Q : Exit → St → Prop) (e : Exit) (st : St) : Prop where
  h : ∃ st1, Mv base st st1 ∧ Q e st1
section
variable {P : Program} {N base : Nat} {st st1 : St} {Q : Exit → St → Prop} {x : LCode}
theorem Sat.mv (h : Sat P N base x st (MvQ base Q)) : Sat P N base x st Q := by
  intro ro n B0 own code hro hl Γ0 Γ w0 w σ0 a hc hext
  refine wpIn_mono (h ro n B0 own code hro hl Γ0 Γ w0 w σ0 a hc hext) (fun e a' w' ⟨Γ', st', h1, h2, ⟨st2, h3, h4⟩⟩ => ?_)
  obtain ⟨Γ'', h5, h6⟩ := h3 _ _ _ _ _ h1
  exact ⟨Γ'', st2, h5, h2.trans h6, h4⟩
theorem Sat.from (hm : Mv base st st1) (h : Sat P N base x st1 Q) : Sat P N base x st Q := by
  intro ro n B0 own code hro hl Γ0 Γ w0 w σ0 a hc hext
  obtain ⟨Γ', h1, h2⟩ := hm _ _ _ _ _ hc
  exact h ro n B0 own code hro hl Γ0 Γ' w0 w σ0 a h1 (hext.trans h2)
theorem Ops.from {ops : List LIns} {K : St → Prop} (hm : Mv base st st1) (h : Ops P N base ops st1 K) : Ops P N base ops st K := by
  intro ro n B0 own opsA idx os hl hidx Γ0 Γ w0 w σ0 a hc hext
  obtain ⟨Γ', h1, h2⟩ := hm _ _ _ _ _ hc
  exact h ro n B0 own opsA idx os hl hidx Γ0 Γ' w0 w σ0 a h1 (hext.trans h2)
theorem MvQ.stay {e : Exit} (h : Q e st) : MvQ base Q e st := ⟨st, Mv.refl _ _, h⟩
theorem MvQ.from {e : Exit} (hm : Mv base st st1) (h : MvQ base Q e st1) : MvQ base Q e st := by
  obtain ⟨s2, h1, h2⟩ := h
  exact ⟨s2, hm.trans h1, h2⟩
end
section
variable (P : Program) (N base : Nat)
structure SatL (x : LCode) (st : St) (Q : Exit → St → Prop) : Prop where
  h : Sat P N base x.strip st Q
def wp : LCode → St → (Exit → St → Prop) → Prop
  | .skip, st, Q => Q .normal st
  | .exit id, st, Q => Q (.exit id) st
  | .ret, st, Q => Q .ret st
  | .region ops, ⟨env, σ, nx⟩, Q => wpOps P N base ops env σ nx none fun st => Q .normal st
  | .regionD ops M _, ⟨env, σ, nx⟩, Q => wpD P N base M ops env σ nx none [] fun st => Q .normal st
  | .seq a b, st, Q => wp a st fun e st => match e with
    | .normal => wp b st Q
    | e => Q e st
  | .cond c a b, ⟨env, σ, nx⟩, Q => match evo env c with
    | .c .tru => wp a ⟨env, σ, nx⟩ Q
    | .c .fls => wp b ⟨env, σ, nx⟩ Q
    | .c (.d (.v (.bool p))) => match c with
      | .tmp t => Fork p (wp a ⟨(t, .c .tru) :: env, σ, nx⟩ Q) (wp b ⟨(t, .c .fls) :: env, σ, nx⟩ Q)
      | _ => False
    | _ => False
  | .block id a, st, Q => wp a st fun e st => match e with
    | .exit k => match Nat.beq k id with
      | true => Q .normal st
      | false => Q (.exit k) st
    | e => Q e st
  | .loop a, st, Q => SatL P N base (.loop a) st (MvQ base Q)
  | .rangeFunc f ps a c, st, Q => SatL P N base (.rangeFunc f ps a c) st (MvQ base Q)
  | .label, st, Q => Q .normal st
  | .stop a, st, Q => SatL P N base a st Q
  | .scope a, st, Q => wp a st fun e st => match e with
    | .goto _ => False
    | e => Q e st
variable {P N base}
theorem wp_spec [m : Mix P] : ∀ (x : LCode) (st : St) (Q : Exit → St → Prop), wp P N base x st Q → Sat P N base x.strip st Q
  | .skip, st, Q, h => Sat.skip h
  | .exit id, st, Q, h => Sat.exit h
  | .ret, st, Q, h => Sat.ret h
  | .region ops, ⟨env, σ, nx⟩, Q, h => Sat.region (Ops.wp h)
  | .regionD ops M ks, ⟨env, σ, nx⟩, Q, h => Sat.drawn m.h (OpsD.wp h)
  | .seq a b, st, Q, h => Sat.seq ((wp_spec a st _ h).mono fun e st h => by
    cases e with
    | normal => exact wp_spec b st Q h
    | _ => exact h)
  | .cond c a b, ⟨env, σ, nx⟩, Q, h => by
    unfold wp at h
    split at h
    · rename_i hv; exact Sat.condT hv (wp_spec a _ Q h)
    · rename_i hv; exact Sat.condF hv (wp_spec b _ Q h)
    · rename_i p hv
      split at h
      · exact Sat.cond hv (fun hh => wp_spec a _ Q (h.t hh)) (fun hh => wp_spec b _ Q (h.f hh))
      · exact h.elim
    · exact h.elim
  | .block id a, st, Q, h => Sat.block ((wp_spec a st _ h).mono fun e st h => by
    cases e with
    | exit k =>
      simp only [blockQ]
      simp only at h
      split at h
      · rename_i hb; rw [if_pos hb]; exact h
      · rename_i hb; rw [if_neg (by rw [hb]; simp)]; exact h
    | _ => exact h)
  | .loop a, st, Q, h => Sat.mv h.h
  | .rangeFunc f ps a c, st, Q, h => Sat.mv h.h
  | .label, st, Q, h => Sat.label h
  | .stop a, st, Q, h => h.h
  | .scope a, st, Q, h => Sat.scope ((wp_spec a st _ h).mono fun e st h => by
    cases e with
    | goto l => exact h.elim
    | _ => exact h)
end
end Go.Pw
set_option linter.unusedVariables false
namespace Go.Pw
open Go Go.RowKit
section
variable {P : Program} {N base : Nat} {st : St} {Q : Exit → St → Prop}
theorem low_rangeFunc {own : List Nat} {code : Code} {f : Operand} {ps : List Nat} {la lb : LCode} (h : lowCode P N own code = some (.rangeFunc f ps la lb)) :
    ∃ qs a c, code = .rangeFunc f qs a c ∧ qs.toList = ps ∧ lowCode P N own a = some la ∧ lowCode P N own c = some lb := by
  cases code with
  | rangeFunc g qs a c =>
    simp only [lowCode, Option.bind_eq_bind, Option.bind_eq_some_iff, Option.some.injEq] at h
    obtain ⟨x, hx, y, hy, h⟩ := h
    cases h
    exact ⟨qs, a, c, rfl, rfl, hx, hy⟩
  | region id ops draw =>
    simp only [lowCode, Option.bind_eq_bind, Option.bind_eq_some_iff] at h
    obtain ⟨l, hl, h⟩ := h
    split at h
    · split at h <;> simp at h
    · simp at h
  | _ => simp [lowCode, Option.bind_eq_some_iff] at h
theorem alloc_mark {base : Nat} {Γ : Cx} {w : World} {σ : Store} (h : StoreOk Γ w σ) (o : Obj) : StoreOk Γ (w.alloc o) σ ∧ Ext base Γ w σ Γ (w.alloc o) σ :=
  ⟨h.keep (CxLe.refl _) (fun k hI => by have := h.im k hI; simp; omega) (alloc_same h o) (fun k hl => heap_alloc (h.live_lt hl)) (fun k hl hI => h.not_live hI hl),
    Ext.grow (Γ := Γ) (Γ' := Γ) (w := w) (w' := w.alloc o) (fun _ _ => rfl) (fun _ _ => rfl) (fun _ h => h) (fun k h => .inl h) rfl rfl rfl (by simp) (fun k hk _ => heap_alloc hk) _ (fun k hk => .inl hk)⟩
def rangeQ (id : Nat) (env : List (Nat × V)) (Q : Exit → St → Prop) (σ' : Store) (nx' : Nat) : Prop :=
  match get σ' id with
  | some (.lp _ .ready none _) => Q .normal ⟨env, del σ' id, nx'⟩
  | some (.lp _ .done (some .ret) _) => Q .ret ⟨env, del σ' id, nx'⟩
  | some (.lp _ .done (some (.exit k)) _) => Q (.exit k) ⟨env, del σ' id, nx'⟩
  | _ => False
theorem rangeQ_iff {id : Nat} {env : List (Nat × V)} {σ' : Store} {nx' : Nat} (h : rangeQ id env Q σ' nx') :
    ∃ env' s j R, get σ' id = some (.lp env' s j R) ∧ s ≠ .busy ∧ ((j = none ∧ Q .normal ⟨env, del σ' id, nx'⟩) ∨ (j = some .ret ∧ Q .ret ⟨env, del σ' id, nx'⟩) ∨ ∃ k, j = some (.exit k) ∧ Q (.exit k) ⟨env, del σ' id, nx'⟩) := by
  unfold rangeQ at h
  split at h
  · rename_i e R hg; exact ⟨_, _, _, _, hg, by simp, .inl ⟨rfl, h⟩⟩
  · rename_i e R hg; exact ⟨_, _, _, _, hg, by simp, .inr (.inl ⟨rfl, h⟩)⟩
  · rename_i e k R hg; exact ⟨_, _, _, _, hg, by simp, .inr (.inr ⟨_, rfl, h⟩)⟩
  · exact h.elim
theorem Sat.rangeFunc {f : Operand} {ps : List Nat} {la lb : LCode} {fid : FuncId} {ids : List Nat} (hf : evo st.env f = .c (.fn fid ids)) (hps : ps.all (fun p => decide (p < N)) = true)
    (h : CallS P fid (.c (.yd st.nx) :: ids.map fun k => .c (.bp k 0)) ((st.nx, .lp st.env .ready none (RR P N ps la lb)) :: st.σ) (st.nx + 1) fun _ σ' nx' => rangeQ st.nx st.env Q σ' nx') :
    Sat P N base (.rangeFunc f ps la lb) st Q := by
  intro ro n B0 own code hro hl Γ0 Γ w0 w σ0 a hc hext
  obtain ⟨qs, ca, cb, rfl, hqs, hla, hlb⟩ := low_rangeFunc hl
  have hro' := hro rfl
  subst hro'
  have hfr := hc.ev f
  rw [hf] at hfr
  obtain ⟨bs, hbl, hbs, hfu⟩ : ∃ bs : List Nat, bs.length = ids.length ∧ (∀ (j i : Nat), ids[j]? = some i → ∃ b, Γ.ρ i = some b ∧ bs[j]? = some b) ∧ a.eval f = .func (.func fid) #[] (bs.map fun b => ptr b 0).toArray := by
    generalize a.eval f = u at hfr ⊢
    cases hfr with | c _ _ h => exact h
  refine wpIn_rangeFunc (fun fn _ => ?_)
  let wa := w.alloc (.deferred (some []))
  have hsza : wa.heap.size = w.heap.size + 1 := by simp [wa]
  let r0 : Loop := { state := .ready, pending := none, fn, tmps := a.tmps, params := qs, assign := ca, body := cb, defers := w.heap.size }
  let w1 := wa.alloc (.loop r0)
  obtain ⟨hsta, hexta⟩ := alloc_mark (base := st.nx) hc.ok (.deferred (some []))
  have hid := hc.free st.nx (Nat.le_refl _)
  have hRR : RR P N ps la lb { r0 with state := .ready, pending := none } :=
    ⟨hc.size, hqs, fun p hp => by simpa using List.all_eq_true.1 hps p hp, own, hla, hlb⟩
  have hent : EntOk (Γ.upd st.nx wa.heap.size none) (wa.alloc (.loop r0)) st.nx wa.heap.size (.lp st.env .ready none (RR P N ps la lb)) := by
    refine ⟨fun hI => ?_, r0, heap_alloc_new' _ _, rfl, rfl, hRR, fun t => ?_⟩
    · have := hc.ok.im _ hI; omega
    · exact (hc.env t).mono (CxLe.upd _ _ _ hid) (fun k hk => by
        have := hc.ok.im k hk
        rw [heap_alloc (by omega), show wa.heap[k]? = w.heap[k]? from heap_alloc this])
  obtain ⟨hst1, hext1⟩ := alloc_ent (base := st.nx) hsta hid (Nat.le_refl _) (.loop r0) none _ hent
  have hrep : RepL (Γ.upd st.nx wa.heap.size none) w1 (.c (.yd st.nx) :: ids.map fun k => .c (.bp k 0)) (#[Value.func (.yield (w.heap.size + 1)) #[] #[]] ++ (bs.map fun b => ptr b 0).toArray) := by
    refine ⟨by simp [hbl], fun j v u hv hu => ?_⟩
    cases j with
    | zero =>
      simp at hv hu
      subst hv; subst hu
      exact .c _ _ ⟨wa.heap.size, upd_ρ_same, by rw [hsza]⟩
    | succ j =>
      simp only [List.getElem?_cons_succ, List.getElem?_map, Option.map_eq_some_iff] at hv
      obtain ⟨k, hk, rfl⟩ := hv
      obtain ⟨b, hb, hb'⟩ := hbs j k hk
      rw [Array.getElem?_append_right (by simp)] at hu
      simp [hb'] at hu
      subst hu
      refine .c _ _ ⟨b, ?_, rfl⟩
      rw [upd_ρ (fun e => by rw [e] at hb; rw [hid] at hb; cases hb)]; exact hb
  have hfree1 : ∀ id, st.nx + 1 ≤ id → (Γ.upd st.nx wa.heap.size none).ρ id = none := fun id h => by
    rw [upd_ρ (by omega)]; exact hc.free id (by omega)
  have hres : (resolve a.eval (rangeCall f (w.heap.size + 1)) 0).run P w1 = .ok { target := .fn (.func fid) (bs.map fun b => ptr b 0).toArray, args := #[.func (.yield (w.heap.size + 1)) #[] #[]] } w1 := by
    unfold resolve
    simp only [hfu, Deferred.ofValue]
    simp [Act.eval]
  have he : (Instr.enterLoop fn a.tmps qs ca cb (FW none).round).run P w = .ok (w.heap.size + 1, [mkD w.heap.size]) w1 := run_enterLoop_outer fn a.tmps qs ca cb
  have hinv : (invoke (Target.fn (.func fid) (bs.map fun b => ptr b 0).toArray) #[.func (.yield (w.heap.size + 1)) #[] #[]]).run P w1 = .ok (.enter fid (#[.func (.yield (w.heap.size + 1)) #[] #[]] ++ (bs.map fun b => ptr b 0).toArray)) w1 := h.1 _ _
  have hcall := h.2 _ w1 _ hst1 hfree1 hrep
  have hpost : ∀ e w', (∃ u v Γ' σ' nx', e = .returned u ∧ rangeQ st.nx st.env Q σ' nx' ∧ RepV Γ' w' v u ∧ StoreOk Γ' w' σ' ∧ Ext (st.nx + 1) (Γ.upd st.nx wa.heap.size none) w1 ((st.nx, .lp st.env .ready none (RR P N ps la lb)) :: st.σ) Γ' w' σ' ∧ (∀ id, nx' ≤ id → Γ'.ρ id = none) ∧ st.nx + 1 ≤ nx') →
      rangePost (FW none) n P (w.heap.size + 1) (Post N B0 base Γ0 w0 σ0 Q) { a with defers := [mkD w.heap.size] ++ a.defers } e w' := by
    rintro e w' ⟨u, v, Γ', σ', nx', rfl, hR, hv, hst', hext', hfree', hle'⟩
    obtain ⟨env', s, j, R, hlp, hsb, hj⟩ := rangeQ_iff hR
    obtain ⟨b, r, hb, hh, hs, hjr, _, _⟩ := lp_rec hst' hlp
    have hb1 : b = w.heap.size + 1 := by
      rw [hext'.ρ st.nx (Nat.lt_succ_self _), upd_ρ_same] at hb
      cases hb; rw [hsza]
    subst hb1
    have hend := run_endLoop (P := P) hh (by rw [hs]; exact hsb)
    let w4 := w'.putObj (w.heap.size + 1) (.loop { r with state := .exhausted })
    obtain ⟨hst4, hext4⟩ := set_lp (s' := .exhausted) (j' := r.pending) hst' hlp hb hh
    have hsub : Sub (del σ' st.nx) (set σ' st.nx (.lp env' .exhausted r.pending R)) := fun id x hx => by
      by_cases he : id = st.nx
      · subst he; rw [get_del_same] at hx; cases hx
      · rw [get_del_other he] at hx; rw [get_set_other he]; exact hx
    have hst5 : StoreOk Γ' w4 (del σ' st.nx) := hst4.sub hsub
    have hE : Ext st.nx Γ wa st.σ Γ' w4 (del σ' st.nx) := by
      have h1 := (hext1.trans (hext'.mono (Nat.le_succ _))).trans (hext4 st.nx)
      exact ⟨h1.os, h1.tape, h1.output, h1.size, h1.im, h1.new, h1.ρ, h1.κ, h1.keep, fun k hk => h1.live k (live_sub hsub hk)⟩
    have hEw : Ext st.nx Γ w st.σ Γ' w4 (del σ' st.nx) := hexta.trans hE
    have hle : CxLe Γ Γ' := ext_cxle hEw hc.free
    have hsame := hEw.same hc.ok
    have hconc : Conc N B0 base Γ' w4 ⟨st.env, del σ' st.nx, nx'⟩ { a with defers := [mkD w.heap.size] ++ a.defers } := by
      refine ⟨hc.size, fun t => (hc.env t).mono hle hsame, hst5, hfree', by have := hc.le; show base ≤ nx'; omega, ?_⟩
      obtain ⟨Ds, d1, d2, d3⟩ := hc.dfs
      have hnl : ¬ Live Γ st.σ w.heap.size := fun hl => Nat.lt_irrefl _ (hc.ok.live_lt hl)
      refine ⟨w.heap.size :: Ds, by simp [d1], ⟨List.nodup_cons.2 ⟨fun hm => ?_, d2.1⟩, Nat.le_trans d2.2 hEw.size⟩, fun D hD => ?_⟩
      · have := (Array.getElem?_eq_some_iff.1 (d3 _ hm).2.2.2).1; omega
      · rcases List.mem_cons.1 hD with rfl | hD
        · refine ⟨d2.2, fun hi => ?_, fun hlv => ?_, ?_⟩
          · rcases hE.new _ hi with h1 | h1 | h1
            · exact Nat.lt_irrefl _ (hc.ok.im _ h1)
            · omega
            · exact hnl h1
          · rcases hE.live _ hlv with h1 | h1
            · exact hnl h1
            · omega
          · rw [hE.keep _ (by omega) hnl]; exact heap_alloc_new' _ _
        · obtain ⟨d4, d5, d6, d7⟩ := d3 D hD
          have hlt : D < w.heap.size := (Array.getElem?_eq_some_iff.1 d7).1
          refine ⟨d4, fun hi => ?_, fun hlv => ?_, (hEw.keep D hlt d6).trans d7⟩
          · rcases hEw.new D hi with h1 | h1 | h1
            · exact d5 h1
            · omega
            · exact d6 h1
          · rcases hEw.live D hlv with h1 | h1
            · exact d6 h1
            · omega
    have hEx : Ext base Γ0 w0 σ0 Γ' w4 (del σ' st.nx) := hext.trans (hEw.mono hc.le)
    refine ⟨r.pending, w4, hend, ?_⟩
    rcases hj with ⟨rfl, hq⟩ | ⟨rfl, hq⟩ | ⟨k, rfl, hq⟩
    · rw [hjr]; exact ⟨Γ', _, hconc, hEx, hq⟩
    · rw [hjr]; exact wpIn_ret ⟨Γ', _, hconc, hEx, hq⟩
    · rw [hjr]; exact wpIn_exit ⟨Γ', _, hconc, hEx, hq⟩
  exact ⟨w.heap.size + 1, [mkD w.heap.size], w1, _, w1, fid, _, w1, he, hres, fun _ _ => trivial, hinv, fun h => by simp [FW, Fence.wide] at h, Calls.fw (hcall.mono hpost)⟩
end
end Go.Pw
set_option linter.unusedVariables false
set_option linter.unusedSectionVars false
namespace Go.Pw
open Go Go.RowKit
structure FnOk (P : Program) (f : FuncId) (N : Nat) (lc : LCode) (rl : List RL) : Prop where
  ent : Ent1 P f
  ok : ∃ own fn, P.funcs[f]? = some fn ∧ lowF P own fn = some (N, lc.strip, rl)
section
variable {P : Program} [m : Mix P] {N base : Nat}
theorem Sat.of {x : LCode} {st : St} {Q : Exit → St → Prop} (h : wp P N base x st Q) : Sat P N base x.strip st Q := wp_spec x st Q h
theorem SatL.go {x : LCode} {st : St} {Q : Exit → St → Prop} (h : wp P N base x st Q) : SatL P N base x st Q := ⟨wp_spec x st Q h⟩
theorem PFD.of {f : FuncId} {lc : LCode} {rl : List RL} {args vs : List V} (hf : FnOk P f N lc rl) (hN : Nat.ble args.length N = true) (hc : cloL args)
    (h : wp P N 0 lc ⟨argEnv 0 args, [], 0⟩ (RetQ 0 rl vs [] 0)) : PFD P f args (retV vs) := by
  obtain ⟨hent, own, fn, h1, h2⟩ := hf
  exact PFD.enter vs h1 hent h2 (Nat.le_of_ble_eq_true hN) hc (Sat.of h)
def normC : C → C
  | .tru => .d (.v (.bool true))
  | .fls => .d (.v (.bool false))
  | c => c
def normA : V → V
  | .c x => .c (normC x)
  | .agg cs => .agg (cs.map normC)
  | v => v
theorem normC_eq (c : C) : CEq c (normC c) := by cases c <;> first | exact .tru | exact .fls | exact .refl _
theorem normA_eq (v : V) : VEq v (normA v) := by
  cases v with
  | c x => exact .c _ _ (normC_eq x)
  | agg cs =>
    refine .agg _ _ (by simp) (fun i x y hx hy => ?_)
    simp only [List.getElem?_map, hx, Option.map_some, Option.some.injEq] at hy
    subst hy
    exact normC_eq x
  | _ => exact .refl _
theorem ris_norm : ∀ (xs : List V), RIs xs (xs.map normA)
  | [] => .nil
  | x :: xs => .cons (normA_eq x).ri (ris_norm xs)
theorem VEqs.ris : ∀ {xs ys : List V}, VEqs xs ys → RIs xs ys
  | [], [], _ => .nil
  | x :: xs, y :: ys, h => .cons h.1.ri (VEqs.ris h.2)
  | [], _ :: _, h => h.elim
  | _ :: _, [], h => h.elim
structure Fits (env : List (Nat × V)) (xs : List Operand) (args : List V) : Prop where
  h : RIs (xs.map (evo env)) args
theorem Fits.eq {env : List (Nat × V)} {xs : List Operand} {args : List V} (h : (xs.map (evo env)).map normA = args) : Fits env xs args := ⟨h ▸ ris_norm _⟩
theorem Fits.veq {env : List (Nat × V)} {xs : List Operand} {args : List V} (h : VEqs (xs.map (evo env)) args) : Fits env xs args := ⟨h.ris⟩
theorem Ops.pc {dst : Option Nat} {fop : Operand} {xs : List Operand} {g : Option (Nat × Bool)} {rest : List LIns} {env : List (Nat × V)} {σ : Store} {nx : Nat} {K : St → Prop} {f : FuncId} {args : List V} {v : V} (hf : evo env fop = .c (.fn f [])) (ha : Fits env xs args) (hc : PFD P f args v)
    (hg : guardOf env g = .run) (h : putK dst v env fun env' => wpOps P N base rest env' σ nx none K) : OpsL P N base (⟨dst, .call fop xs, g⟩ :: rest) ⟨env, σ, nx⟩ K := by
  rw [putK_eq] at h
  exact ⟨Ops.pcall (i := ⟨dst, .call fop xs, g⟩) (st := ⟨env, σ, nx⟩) hg rfl hf ha.h hc (Ops.wp h)⟩
theorem OpsD.pc {M : List Nat} {acc : List (Bool × List Nat)} {dst : Option Nat} {fop : Operand} {xs : List Operand} {g : Option (Nat × Bool)} {rest : List LIns} {env : List (Nat × V)} {σ : Store} {nx : Nat} {K : St → Prop} {f : FuncId} {args : List V} {v : V} (hf : evo env fop = .c (.fn f [])) (ha : Fits env xs args) (hc : PFD P f args v)
    (hg : guardOf env g = .run) (h : putK dst v env fun env' => wpD P N base M rest env' σ nx none ((false, []) :: acc) K) : OpsDL P N base M (⟨dst, .call fop xs, g⟩ :: rest) ⟨env, σ, nx⟩ acc K := by
  rw [putK_eq] at h
  exact ⟨OpsD.pcall (k := 0) (ks := []) (i := ⟨dst, .call fop xs, g⟩) (st := ⟨env, σ, nx⟩) hg rfl hf ha.h hc (OpsD.wp h)⟩
theorem Ops.pcR {dst : Option Nat} {fop : Operand} {xs : List Operand} {g : Option (Nat × Bool)} {rest : List LIns} {env : List (Nat × V)} {σ : Store} {nx : Nat} {K : St → Prop} {f : FuncId} {rows : List (List D)} {args : List V} {v : V} (hf : evo env fop = .c (.fnR f rows)) (ha : RIs (xs.map (evo env) ++ rows.map fun r => .c (.rp r)) args) (hc : PFD P f args v)
    (hg : guardOf env g = .run) (h : putK dst v env fun env' => wpOps P N base rest env' σ nx none K) : OpsL P N base (⟨dst, .call fop xs, g⟩ :: rest) ⟨env, σ, nx⟩ K := by
  rw [putK_eq] at h
  exact ⟨Ops.pcallR (i := ⟨dst, .call fop xs, g⟩) (st := ⟨env, σ, nx⟩) hg rfl hf ha hc (Ops.wp h)⟩
theorem OpsD.pcR {M : List Nat} {acc : List (Bool × List Nat)} {dst : Option Nat} {fop : Operand} {xs : List Operand} {g : Option (Nat × Bool)} {rest : List LIns} {env : List (Nat × V)} {σ : Store} {nx : Nat} {K : St → Prop} {f : FuncId} {rows : List (List D)} {args : List V} {v : V} (hf : evo env fop = .c (.fnR f rows)) (ha : RIs (xs.map (evo env) ++ rows.map fun r => .c (.rp r)) args) (hc : PFD P f args v)
    (hg : guardOf env g = .run) (h : putK dst v env fun env' => wpD P N base M rest env' σ nx none ((false, []) :: acc) K) : OpsDL P N base M (⟨dst, .call fop xs, g⟩ :: rest) ⟨env, σ, nx⟩ acc K := by
  rw [putK_eq] at h
  exact ⟨OpsD.pcallR (k := 0) (ks := []) (i := ⟨dst, .call fop xs, g⟩) (st := ⟨env, σ, nx⟩) hg rfl hf ha hc (OpsD.wp h)⟩
theorem OpsL.same {ops : List LIns} {st : St} {K : St → Prop} (h : OpsL P N base ops st K) : OpsL P N base ops st K := h
theorem OpsDL.same {M : List Nat} {ops : List LIns} {st : St} {acc : List (Bool × List Nat)} {K : St → Prop} (h : OpsDL P N base M ops st acc K) : OpsDL P N base M ops st acc K := h
theorem Fork.same {b : Bool} {p q : Prop} (h : Fork b p q) : Fork b p q := h
def frV (v : V) (k : V → Prop) : Prop :=
  match v with
  | .c x => k (.c x)
  | .agg cs => k (.agg cs)
  | .tup vs => k (.tup vs)
  | .unk => k .unk
theorem frV_eq (v : V) (k : V → Prop) : frV v k = k v := by cases v <;> rfl
def argK : Nat → List V → (List (Nat × V) → Prop) → Prop
  | _, [], k => k []
  | n, v :: vs, k => frV v fun v => frNat (n + 1) fun n' => argK n' vs fun e => k ((n, v) :: e)
theorem argK_eq : ∀ (vs : List V) (n : Nat) (k : List (Nat × V) → Prop), argK n vs k = k (argEnv n vs)
  | [], n, k => rfl
  | v :: vs, n, k => by simp only [argK, frV_eq, frNat_eq, argK_eq vs, argEnv]
def callQ (rl : List RL) (R : V → Store → Nat → Prop) : Exit → St → Prop
  | .normal, st => match resAll st.env st.σ rl with
    | some vs => R (retV vs) st.σ st.nx
    | none => False
  | .ret, st => match resAll st.env st.σ rl with
    | some vs => R (retV vs) st.σ st.nx
    | none => False
  | _, _ => False
theorem CallS.of {f : FuncId} {lc : LCode} {rl : List RL} {args : List V} {σ : Store} {nx : Nat} {R : V → Store → Nat → Prop} (hf : FnOk P f N lc rl) (hN : Nat.ble args.length N = true)
    (h : argK 0 args fun env => wp P N nx lc ⟨env, σ, nx⟩ (callQ rl R)) : CallS P f args σ nx R := by
  rw [argK_eq] at h
  obtain ⟨hent, own, fn, h1, h2⟩ := hf
  refine CallS.enter h1 hent h2 (Nat.le_of_ble_eq_true hN) ((Sat.of h).mono fun e st h => ?_)
  unfold callQ at h
  split at h
  · split at h
    · rename_i vs hv; exact ⟨.inl rfl, vs, hv, h⟩
    · exact h.elim
  · split at h
    · rename_i vs hv; exact ⟨.inr rfl, vs, hv, h⟩
    · exact h.elim
  · exact h.elim
theorem Ops.cs {dst : Option Nat} {fop : Operand} {xs : List Operand} {g : Option (Nat × Bool)} {rest : List LIns} {env : List (Nat × V)} {σ : Store} {nx : Nat} {K : St → Prop} {f : FuncId} {ids : List Nat} (hf : evo env fop = .c (.fn f ids)) (hg : guardOf env g = .run)
    (h : CallS P f (xs.map (evo env) ++ ids.map fun k => .c (.bp k 0)) σ nx fun v σ' nx' => frV v fun v => frNat nx' fun nx' => putK dst v env fun env' => wpOps P N base rest env' σ' nx' none K) : OpsL P N base (⟨dst, .call fop xs, g⟩ :: rest) ⟨env, σ, nx⟩ K := by
  refine ⟨?_⟩
  refine Ops.callS (i := ⟨dst, .call fop xs, g⟩) (st := ⟨env, σ, nx⟩) hg rfl hf ?_
  simp only [frV_eq, frNat_eq, putK_eq] at h
  exact ⟨h.1, fun Γ w us h1 h2 h3 => (h.2 Γ w us h1 h2 h3).mono fun e w' ⟨u, v, Γ', σ', nx', q1, q2, q3⟩ => ⟨u, v, Γ', σ', nx', q1, Ops.wp q2, q3⟩⟩
structure Again0 {ι : Type} (inv : ι → List (Nat × V)) (pre : ι → Prop) (μ : ι → Nat) (i : ι) (st : St) : Prop where
  h : ∃ j, pre j ∧ μ j < μ i ∧ envIs st.env (inv j)
def lpQ0 {ι : Type} (inv : ι → List (Nat × V)) (pre : ι → Prop) (μ : ι → Nat) (i : ι) (Q : Exit → St → Prop) : Exit → St → Prop
  | .normal, st => Again0 inv pre μ i st
  | e, st => Q e st
structure Again {ι : Type} (base : Nat) (inv : ι → St) (pre : ι → Prop) (μ : ι → Nat) (i : ι) (st : St) : Prop where
  h : ∃ j π, pre j ∧ μ j < μ i ∧ Wk base st (inv j) π
def lpQ {ι : Type} (base : Nat) (inv : ι → St) (pre : ι → Prop) (μ : ι → Nat) (i : ι) (Q : Exit → St → Prop) : Exit → St → Prop
  | .normal, st => Again base inv pre μ i st
  | e, st => Q e st
theorem Sat.lp0 {x : LCode} {st : St} {Q : Exit → St → Prop} {ι : Type} (inv : ι → List (Nat × V)) (pre : ι → Prop) (μ : ι → Nat) (i0 : ι) (h0 : pre i0) (hw : envIs st.env (inv i0))
    (round : ∀ i, pre i → wp P N base x ⟨inv i, [], base⟩ (lpQ0 inv pre μ i Q)) : SatL P N base (.loop x) st Q :=
  ⟨Sat.loop0 inv pre μ i0 h0 hw fun i hi => (Sat.of (round i hi)).mono fun e st h => by
    cases e with
    | normal => exact h.h
    | _ => exact h⟩
def nmAt (base : Nat) (l : List Nat) (i : Nat) : Nat :=
  match Nat.ble base i with
  | true => l.getD (i - base) i
  | false => i
def distinct : List Nat → Bool
  | [] => true
  | x :: l => !(memN x l) && distinct l
def geAll (base : Nat) : List Nat → Bool
  | [] => true
  | x :: l => Nat.ble base x && geAll base l
def nmOk (base nx0 : Nat) (l : List Nat) : Bool := Nat.ble base nx0 && Nat.ble nx0 (base + l.length) && distinct l && geAll base l
theorem distinct_inj : ∀ {l : List Nat}, distinct l = true → ∀ (i j x : Nat), l[i]? = some x → l[j]? = some x → i = j
  | [], _, i, j, x, h, _ => by simp at h
  | y :: l, hd, i, j, x, hi, hj => by
    simp only [distinct, Bool.and_eq_true, Bool.not_eq_true'] at hd
    have hn : y ∉ l := fun h => by rw [memN_iff.2 h] at hd; cases hd.1
    cases i with
    | zero =>
      cases j with
      | zero => rfl
      | succ j =>
        simp only [List.getElem?_cons_zero, Option.some.injEq] at hi
        subst hi
        exact absurd (List.mem_of_getElem? (by simpa using hj)) hn
    | succ i =>
      cases j with
      | zero =>
        simp only [List.getElem?_cons_zero, Option.some.injEq] at hj
        subst hj
        exact absurd (List.mem_of_getElem? (by simpa using hi)) hn
      | succ j => rw [distinct_inj hd.2 i j x (by simpa using hi) (by simpa using hj)]
theorem geAll_get : ∀ {base : Nat} {l : List Nat}, geAll base l = true → ∀ x ∈ l, base ≤ x
  | _, [], _, x, h => by cases h
  | base, y :: l, hd, x, h => by
    simp only [geAll, Bool.and_eq_true] at hd
    rcases List.mem_cons.1 h with rfl | h
    · exact Nat.le_of_ble_eq_true hd.1
    · exact geAll_get hd.2 x h
theorem nmAt_lo {l : List Nat} {i : Nat} (h : i < base) : nmAt base l i = i := by
  unfold nmAt
  split
  · rename_i hb; have := Nat.le_of_ble_eq_true hb; omega
  · rfl
theorem nmAt_hi {l : List Nat} {i : Nat} (h : base ≤ i) : nmAt base l i = l.getD (i - base) i := by
  unfold nmAt
  split
  · rfl
  · rename_i hb; rw [Nat.ble_eq_true_of_le h] at hb; cases hb
def cLtB (n : Nat) : C → Bool
  | .fn _ ids => ltAll n ids
  | .bp id _ => Nat.blt id n
  | .ep id _ _ _ => Nat.blt id n
  | .ms id _ => Nat.blt id n
  | .yd id => Nat.blt id n
  | .mp id => Nat.blt id n
  | .sb id _ => Nat.blt id n
  | _ => true
  where ltAll (n : Nat) : List Nat → Bool
  | [] => true
  | i :: is => Nat.blt i n && ltAll n is
def csLtB (n : Nat) : List C → Bool
  | [] => true
  | c :: cs => cLtB n c && csLtB n cs
def vLtB (n : Nat) : V → Bool
  | .c x => cLtB n x
  | .agg cs => csLtB n cs
  | .tup _ => false
  | .unk => true
def envLtB (n : Nat) : List (Nat × V) → Bool
  | [] => true
  | (_, v) :: e => vLtB n v && envLtB n e
def eLtB (n : Nat) : Ent → Bool
  | .box cs => csLtB n cs
  | .row .. => true
  | .lp env _ _ _ => envLtB n env
  | .mp .. => true
def stoLtB (n : Nat) : Store → Bool
  | [] => true
  | (i, e) :: σ => Nat.blt i n && eLtB n e && stoLtB n σ
theorem blt_iff {a b : Nat} : Nat.blt a b = true ↔ a < b := by simp [Nat.blt_eq]
theorem ltAll_sound {n : Nat} : ∀ {l : List Nat}, cLtB.ltAll n l = true → ∀ i ∈ l, i < n
  | [], _, i, h => by cases h
  | x :: l, h, i, hi => by
    simp only [cLtB.ltAll, Bool.and_eq_true] at h
    rcases List.mem_cons.1 hi with rfl | hi
    · exact blt_iff.1 h.1
    · exact ltAll_sound h.2 i hi
theorem cLtB_sound {n : Nat} {c : C} (h : cLtB n c = true) : cLt n c := by
  cases c with
  | fn f ids => exact fun i hi => ltAll_sound h i hi
  | bp | ep | ms | yd | mp | sb => exact blt_iff.1 h
  | _ => trivial
theorem csLtB_sound {n : Nat} : ∀ {cs : List C}, csLtB n cs = true → csLt n cs
  | [], _ => trivial
  | c :: cs, h => by simp only [csLtB, Bool.and_eq_true] at h; exact ⟨cLtB_sound h.1, csLtB_sound h.2⟩
theorem vLtB_sound {n : Nat} {v : V} (h : vLtB n v = true) : vLt n v := by
  cases v with
  | c x => exact cLtB_sound h
  | agg cs => exact csLtB_sound h
  | tup => cases h
  | unk => trivial
theorem envLtB_sound {n : Nat} : ∀ {e : List (Nat × V)}, envLtB n e = true → envLt n e
  | [], _ => trivial
  | (_, v) :: e, h => by simp only [envLtB, Bool.and_eq_true] at h; exact ⟨vLtB_sound h.1, envLtB_sound h.2⟩
theorem eLtB_sound {n : Nat} {e : Ent} (h : eLtB n e = true) : eLt n e := by
  cases e with
  | box cs => exact csLtB_sound h
  | row => trivial
  | lp => exact envLtB_sound h
  | mp => trivial
def envEq (π : Nat → Nat) (env : List (Nat × V)) : List (Nat × V) → Prop
  | [] => True
  | (t, v) :: e0 => VEq (lk env t) (rnV π v) ∧ envEq π env e0
def stoEq (π : Nat → Nat) (σ : Store) : Store → Prop
  | [] => True
  | (id, x) :: σ0 => (match get σ (π id) with | some y => EEq y (rnE π x) | none => False) ∧ stoEq π σ σ0
theorem envEq.ok {n : Nat} {π : Nat → Nat} {env : List (Nat × V)} : ∀ {e0 : List (Nat × V)}, envLtB n e0 = true → envEq π env e0 → envOk n π env e0
  | [], _, _ => trivial
  | (t, v) :: e0, hl, h => by
    simp only [envLtB, Bool.and_eq_true] at hl
    exact ⟨⟨h.1, vLtB_sound hl.1⟩, envEq.ok hl.2 h.2⟩
theorem stoEq.ok {n : Nat} {π : Nat → Nat} {σ : Store} : ∀ {σ0 : Store}, stoLtB n σ0 = true → stoEq π σ σ0 → stoOk n π σ σ0
  | [], _, _ => stoOk.nil
  | (id, x) :: σ0, hl, h => by
    simp only [stoLtB, Bool.and_eq_true] at hl
    refine stoOk.cons (blt_iff.1 hl.1.1) (eLtB_sound hl.1.2) ?_ (stoEq.ok hl.2 h.2)
    have := h.1
    split at this
    · rename_i y hy; exact ⟨y, hy, this⟩
    · exact this.elim
structure Is (base : Nat) (st st0 : St) (l : List Nat) : Prop where
  nm : (nmOk base st0.nx l && envLtB st0.nx st0.env && stoLtB st0.nx st0.σ) = true
  env : envEq (nmAt base l) st.env st0.env
  sto : stoEq (nmAt base l) st.σ st0.σ
theorem Is.wk {st st0 : St} {l : List Nat} (h : Is base st st0 l) : Wk base st st0 (nmAt base l) := by
  have h1 := h.nm
  simp only [nmOk, Bool.and_eq_true] at h1
  obtain ⟨⟨⟨⟨⟨a1, a2⟩, a3⟩, a4⟩, a5⟩, a6⟩ := h1
  have a1 := Nat.le_of_ble_eq_true a1
  have a2 := Nat.le_of_ble_eq_true a2
  have hget : ∀ i, base ≤ i → i < st0.nx → ∃ x, l[i - base]? = some x ∧ nmAt base l i = x ∧ base ≤ x := fun i h1 h2 => by
    have hlt : i - base < l.length := by omega
    refine ⟨l[i - base], by simp [hlt], ?_, geAll_get a4 _ (List.getElem_mem hlt)⟩
    rw [nmAt_hi h1, List.getD_eq_getElem?_getD, List.getElem?_eq_getElem hlt]; rfl
  refine ⟨fun i hi => nmAt_lo hi, fun i j hi hj he => ?_, a1, h.env.ok a5, h.sto.ok a6⟩
  rcases Nat.lt_or_ge i base with h1 | h1 <;> rcases Nat.lt_or_ge j base with h2 | h2
  · rw [nmAt_lo h1, nmAt_lo h2] at he; exact he
  · obtain ⟨x, _, hx, hx'⟩ := hget j h2 hj
    rw [nmAt_lo h1, hx] at he; omega
  · obtain ⟨x, _, hx, hx'⟩ := hget i h1 hi
    rw [nmAt_lo h2, hx] at he; omega
  · obtain ⟨x, hx, hx', _⟩ := hget i h1 hi
    obtain ⟨y, hy, hy', _⟩ := hget j h2 hj
    rw [hx', hy'] at he
    subst he
    have := distinct_inj a3 _ _ _ hx hy
    omega
theorem Sat.lp {x : LCode} {st : St} {Q : Exit → St → Prop} {ι : Type} (inv : ι → St) (pre : ι → Prop) (μ : ι → Nat) (i0 : ι) (l : List Nat) (h0 : pre i0) (hw : Is base st (inv i0) l)
    (round : ∀ i, pre i → wp P N base x (inv i) (lpQ base inv pre μ i Q)) : SatL P N base (.loop x) st Q :=
  ⟨Sat.loop inv pre μ i0 _ h0 hw.wk fun i hi => (Sat.of (round i hi)).mono fun e st h => by
    cases e with
    | normal => exact h.h
    | _ => exact h⟩
theorem again {ι : Type} {inv : ι → St} {pre : ι → Prop} {μ : ι → Nat} {i : ι} {st : St} (j : ι) (l : List Nat) (h : pre j) (hm : μ j < μ i) (hw : Is base st (inv j) l) : Again base inv pre μ i st :=
  ⟨j, _, h, hm, hw.wk⟩
theorem again0 {ι : Type} {inv : ι → List (Nat × V)} {pre : ι → Prop} {μ : ι → Nat} {i : ι} {st : St} (j : ι) (h : pre j) (hm : μ j < μ i) (hw : envIs st.env (inv j)) : Again0 inv pre μ i st :=
  ⟨j, h, hm, hw⟩
theorem Sat.rf {f : Operand} {ps : List Nat} {la lb : LCode} {fid : FuncId} {ids : List Nat} {env : List (Nat × V)} {σ : Store} {nx : Nat} {Q : Exit → St → Prop} (hf : evo env f = .c (.fn fid ids)) (hps : ps.all (fun p => decide (p < N)) = true)
    (h : frNat (nx + 1) fun nx1 => CallS P fid (.c (.yd nx) :: ids.map fun k => .c (.bp k 0)) ((nx, .lp env .ready none (RR P N ps la lb)) :: σ) nx1 fun _ σ' nx' => frNat nx' fun nx' => rangeQ nx env Q σ' nx') : SatL P N base (.rangeFunc f ps la lb) ⟨env, σ, nx⟩ Q := by
  simp only [frNat_eq] at h
  exact ⟨Sat.rangeFunc (st := ⟨env, σ, nx⟩) hf hps h⟩
def yieldQ (id : Nat) (R : Loop → Prop) (next : V → Store → Nat → Prop) : Exit → St → Prop
  | .normal, st => ∃ env2 s2 j2, get st.σ id = some (.lp env2 s2 j2 R) ∧ frS (set st.σ id (.lp env2 .ready none R)) fun σ => next (.c .tru) σ st.nx
  | .ret, st => ∃ env2 s2 j2, get st.σ id = some (.lp env2 s2 j2 R) ∧ frS (set st.σ id (.lp env2 .done (some .ret) R)) fun σ => next (.c .fls) σ st.nx
  | .exit k, st => ∃ env2 s2 j2, get st.σ id = some (.lp env2 s2 j2 R) ∧ frS (set st.σ id (.lp env2 .done (some (.exit k)) R)) fun σ => next (.c .fls) σ st.nx
  | _, _ => False
def bindK : List Nat → List V → List (Nat × V) → (List (Nat × V) → Prop) → Prop
  | p :: ps, v :: vs, env, k => frV v fun v => bindK ps vs ((p, v) :: env) k
  | _, _, env, k => k env
theorem bindK_eq : ∀ (ps : List Nat) (vs : List V) (env : List (Nat × V)) (k : List (Nat × V) → Prop), bindK ps vs env k = k (bindE ps vs env)
  | [], vs, env, k => by simp [bindK, bindE]
  | p :: ps, [], env, k => by simp [bindK, bindE]
  | p :: ps, v :: vs, env, k => by simp only [bindK, frV_eq, bindK_eq ps vs, bindE]
theorem Ops.yd {id N' : Nat} {dst : Option Nat} {fop : Operand} {xs : List Operand} {g : Option (Nat × Bool)} {rest : List LIns} {env : List (Nat × V)} {σ : Store} {nx : Nat} {K : St → Prop} {env0 : List (Nat × V)} {ps : List Nat} {la lb : LCode} (hf : evo env fop = .c (.yd id)) (hg : guardOf env g = .run)
    (hlp : get σ id = some (.lp env0 .ready none (RR P N' ps la lb))) (hlen : Nat.beq ps.length xs.length = true) (hr : (la.ranges || lb.ranges) = false)
    (h : bindK ps (xs.map (evo env)) env0 fun e => Pw.wp P N' nx la ⟨e, σ, nx⟩ fun e st1 => e = .normal ∧ ∃ env1, get st1.σ id = some (.lp env1 .ready none (RR P N' ps la lb)) ∧
      frS (set st1.σ id (.lp env1 .busy none (RR P N' ps la lb))) fun σ' => frNat st1.nx fun nx1 => Pw.wp P N' nx lb ⟨st1.env, σ', nx1⟩ (yieldQ id (RR P N' ps la lb) fun v σ' nx' => frNat nx' fun nx' => putK dst v env fun env' => wpOps P N base rest env' σ' nx' none K)) (hsa : la.strip = la := by exact rfl) (hsb : lb.strip = lb := by exact rfl) :
    OpsL P N base (⟨dst, .call fop xs, g⟩ :: rest) ⟨env, σ, nx⟩ K := by
  rw [bindK_eq] at h
  refine ⟨?_⟩
  simp only [Bool.or_eq_false_iff] at hr
  refine Ops.yield (i := ⟨dst, .call fop xs, g⟩) (st := ⟨env, σ, nx⟩) hg rfl hf hlp (Nat.eq_of_beq_eq_true hlen) hr.1 hr.2 ((hsa ▸ Sat.of h : Sat P N' nx la _ _).mono fun e st1 ⟨he, env1, h1, h2⟩ => ⟨he, env1, h1, ?_⟩)
  rw [frS_eq, frNat_eq] at h2
  refine (hsb ▸ Sat.of h2 : Sat P N' nx lb _ _).mono fun e st2 h3 => ?_
  cases e with
  | normal =>
    obtain ⟨env2, s2, j2, hg2, h4⟩ := h3
    simp only [frNat_eq, putK_eq, frS_eq] at h4
    exact ⟨env2, s2, j2, hg2, Ops.wp h4⟩
  | ret =>
    obtain ⟨env2, s2, j2, hg2, h4⟩ := h3
    simp only [frNat_eq, putK_eq, frS_eq] at h4
    exact ⟨env2, s2, j2, hg2, Ops.wp h4⟩
  | exit k =>
    obtain ⟨env2, s2, j2, hg2, h4⟩ := h3
    simp only [frNat_eq, putK_eq, frS_eq] at h4
    exact ⟨env2, s2, j2, hg2, Ops.wp h4⟩
  | _ => exact h3.elim
end
end Go.Pw
set_option linter.unusedVariables false
namespace Go.Pw
open Go Go.RowKit
abbrev dI (n : Int) : D := .v (.int .i64 n)
abbrev int (n : Int) : C := .d (.v (.int .i64 n))
abbrev r1 (n : Int) : List D := [dI n]
abbrev r2 (p : Int × Int) : List D := [dI p.1, dI p.2]
abbrev r3 (p : Int × Int × Int) : List D := [dI p.1, dI p.2.1, dI p.2.2]
abbrev slv {α : Type} (s : Nat) (row : α → List D) (d : α) (l : List α) : C := .d (.sl s l.length fun i => row (l.getD i d))
abbrev ints (l : List Int) : C := slv 1 r1 0 l
abbrev prs (l : List (Int × Int)) : C := slv 2 r2 (0, 0) l
abbrev trs (l : List (Int × Int × Int)) : C := slv 3 r3 (0, 0, 0) l
abbrev rowv {α : Type} (e : TypeId) (s : Nat) (row : α → List D) (d : α) (l : List α) : Ent := .row e s l.length (fun i => row (l.getD i d)) false
theorem VEq.ms {id n m : Nat} (h : n = m) : VEq (.c (.ms id n)) (.c (.ms id m)) := by subst h; exact .refl _
theorem CEq.ms {id n m : Nat} (h : n = m) : CEq (.ms id n) (.ms id m) := by subst h; exact .refl _
theorem CEq.int {k : IntKind} {a b : Int} (h : a = b) : CEq (.d (.v (.int k a))) (.d (.v (.int k b))) := by subst h; exact .refl _
theorem CEq.sl {s n m : Nat} {f g : Nat → List D} (hn : n = m) (h : ∀ i, i < n → f i = g i) : CEq (.d (.sl s n f)) (.d (.sl s m g)) := by subst hn; exact .d _ _ (.sl _ _ _ _ h)
theorem CEq.nil {s : Nat} {g : Nat → List D} : CEq (.d (.v (.slice none 0 0))) (.d (.sl s 0 g)) := .d _ _ (.nil s g)
theorem VEq.nil {s : Nat} {g : Nat → List D} : VEq (.c (.d (.v (.slice none 0 0)))) (.c (.d (.sl s 0 g))) := .c _ _ .nil
theorem VEq.sll {α : Type} {s : Nat} {row : α → List D} {d : α} {l m : List α} (h : l = m) : VEq (.c (slv s row d l)) (.c (slv s row d m)) := by subst h; exact .refl _
theorem CEq.sll {α : Type} {s : Nat} {row : α → List D} {d : α} {l m : List α} (h : l = m) : CEq (slv s row d l) (slv s row d m) := by subst h; exact .refl _
def CEqs : List C → List C → Prop
  | [], [] => True
  | x :: xs, y :: ys => CEq x y ∧ CEqs xs ys
  | _, _ => False
theorem CEqs.length : ∀ {xs ys : List C}, CEqs xs ys → xs.length = ys.length
  | [], [], _ => rfl
  | x :: xs, y :: ys, h => by simp [CEqs.length h.2]
  | [], _ :: _, h => h.elim
  | _ :: _, [], h => h.elim
theorem CEqs.get : ∀ {xs ys : List C}, CEqs xs ys → ∀ (i : Nat) x y, xs[i]? = some x → ys[i]? = some y → CEq x y
  | [], [], _, i, x, y, h, _ => by simp at h
  | a :: xs, b :: ys, h, i, x, y, hx, hy => by
    cases i with
    | zero => simp at hx hy; subst hx; subst hy; exact h.1
    | succ i => exact CEqs.get h.2 i x y (by simpa using hx) (by simpa using hy)
  | [], _ :: _, h, _, _, _, _, _ => h.elim
  | _ :: _, [], h, _, _, _, _, _ => h.elim
theorem EEq.boxs {xs ys : List C} (h : CEqs xs ys) : EEq (.box xs) (.box ys) := .box xs ys h.length h.get
theorem VEq.aggs {xs ys : List C} (h : CEqs xs ys) : VEq (.agg xs) (.agg ys) := .agg xs ys h.length h.get
theorem EEq.same (x : Ent) : EEq x x := by
  cases x with
  | box xs => exact .box _ _ rfl fun i x y hx hy => by rw [hx] at hy; cases hy; exact .refl _
  | row => exact .row _ _ _ _ _ _ fun _ _ => rfl
  | lp => exact .lp _ _ _ _ _ fun _ => .refl _
  | mp m es => exact .mp m es
theorem EEq.rowl {e : TypeId} {s n m : Nat} {f g : Nat → List D} {fz : Bool} (hn : n = m) (h : ∀ i, i < n → f i = g i) : EEq (.row e s n f fz) (.row e s m g fz) := by subst hn; exact .row _ _ _ _ _ _ h
theorem row_app {α : Type} {row : α → List D} {d : α} {l : List α} {x : α} {r : List D} (h : r = row x) (i : Nat) (hi : i < l.length + 1) : (if i < l.length then row (l.getD i d) else ([r].getD (i - l.length) [])) = row ((l ++ [x]).getD i d) := by
  subst h
  by_cases hlt : i < l.length
  · rw [if_pos hlt, List.getD_eq_getElem?_getD, List.getD_eq_getElem?_getD, List.getElem?_append_left hlt]
  · have : i = l.length := by omega
    subst this
    simp
theorem EEq.app {α : Type} {e : TypeId} {s : Nat} {row : α → List D} {d : α} {l l' : List α} (x : α) {r : List D} (h : r = row x) (hl : l' = l ++ [x]) : EEq (.row e s (l.length + 1) (fun i => if i < l.length then row (l.getD i d) else ([r].getD (i - l.length) [])) false) (rowv e s row d l') := by
  subst hl
  exact EEq.rowl (by simp) fun i hi => row_app h i hi
theorem EEq.one {α : Type} {e : TypeId} {s : Nat} {row : α → List D} {d : α} {l' : List α} (x : α) {r : List D} (h : r = row x) (hl : l' = [x]) : EEq (.row e s 1 (fun i => [r].getD i []) false) (rowv e s row d l') := by
  subst hl
  subst h
  exact EEq.rowl rfl fun i hi => by
    have : i = 0 := by omega
    subst this; rfl
theorem EEq.app1 {e : TypeId} {l l' : List Int} {a : Int} (hl : l' = l ++ [a]) : EEq (.row e 1 (l.length + 1) (fun i => if i < l.length then r1 (l.getD i 0) else ([[dI a]].getD (i - l.length) [])) false) (rowv e 1 r1 0 l') := EEq.app a rfl hl
theorem EEq.app2 {e : TypeId} {l l' : List (Int × Int)} {a b : Int} (hl : l' = l ++ [(a, b)]) : EEq (.row e 2 (l.length + 1) (fun i => if i < l.length then r2 (l.getD i (0, 0)) else ([[dI a, dI b]].getD (i - l.length) [])) false) (rowv e 2 r2 (0, 0) l') := EEq.app (a, b) rfl hl
theorem EEq.app3 {e : TypeId} {l l' : List (Int × Int × Int)} {a b c : Int} (hl : l' = l ++ [(a, b, c)]) : EEq (.row e 3 (l.length + 1) (fun i => if i < l.length then r3 (l.getD i (0, 0, 0)) else ([[dI a, dI b, dI c]].getD (i - l.length) [])) false) (rowv e 3 r3 (0, 0, 0) l') := EEq.app (a, b, c) rfl hl
theorem CEq.li_1 {a0 : Int} : CEq (.d (.sl 1 [[dI a0]].length fun i => [[dI a0]].getD i [])) (ints [a0]) := CEq.sl rfl (fun i hi => by
  rcases i with _ | i
  · rfl
  exact absurd hi (by simp only [List.length_cons, List.length_nil]; omega))
theorem VEq.li_1 {a0 : Int} : VEq (.c (.d (.sl 1 [[dI a0]].length fun i => [[dI a0]].getD i []))) (.c (ints [a0])) := .c _ _ CEq.li_1
theorem CEq.li_2 {a0 a1 : Int} : CEq (.d (.sl 1 [[dI a0], [dI a1]].length fun i => [[dI a0], [dI a1]].getD i [])) (ints [a0, a1]) := CEq.sl rfl (fun i hi => by
  rcases i with _ | i
  · rfl
  rcases i with _ | i
  · rfl
  exact absurd hi (by simp only [List.length_cons, List.length_nil]; omega))
theorem VEq.li_2 {a0 a1 : Int} : VEq (.c (.d (.sl 1 [[dI a0], [dI a1]].length fun i => [[dI a0], [dI a1]].getD i []))) (.c (ints [a0, a1])) := .c _ _ CEq.li_2
theorem CEq.li_3 {a0 a1 a2 : Int} : CEq (.d (.sl 1 [[dI a0], [dI a1], [dI a2]].length fun i => [[dI a0], [dI a1], [dI a2]].getD i [])) (ints [a0, a1, a2]) := CEq.sl rfl (fun i hi => by
  rcases i with _ | i
  · rfl
  rcases i with _ | i
  · rfl
  rcases i with _ | i
  · rfl
  exact absurd hi (by simp only [List.length_cons, List.length_nil]; omega))
theorem VEq.li_3 {a0 a1 a2 : Int} : VEq (.c (.d (.sl 1 [[dI a0], [dI a1], [dI a2]].length fun i => [[dI a0], [dI a1], [dI a2]].getD i []))) (.c (ints [a0, a1, a2])) := .c _ _ CEq.li_3
theorem CEq.li_4 {a0 a1 a2 a3 : Int} : CEq (.d (.sl 1 [[dI a0], [dI a1], [dI a2], [dI a3]].length fun i => [[dI a0], [dI a1], [dI a2], [dI a3]].getD i [])) (ints [a0, a1, a2, a3]) := CEq.sl rfl (fun i hi => by
  rcases i with _ | i
  · rfl
  rcases i with _ | i
  · rfl
  rcases i with _ | i
  · rfl
  rcases i with _ | i
  · rfl
  exact absurd hi (by simp only [List.length_cons, List.length_nil]; omega))
theorem VEq.li_4 {a0 a1 a2 a3 : Int} : VEq (.c (.d (.sl 1 [[dI a0], [dI a1], [dI a2], [dI a3]].length fun i => [[dI a0], [dI a1], [dI a2], [dI a3]].getD i []))) (.c (ints [a0, a1, a2, a3])) := .c _ _ CEq.li_4
theorem CEq.lp_1 {a0 b0 : Int} : CEq (.d (.sl 2 [[dI a0, dI b0]].length fun i => [[dI a0, dI b0]].getD i [])) (prs [(a0, b0)]) := CEq.sl rfl (fun i hi => by
  rcases i with _ | i
  · rfl
  exact absurd hi (by simp only [List.length_cons, List.length_nil]; omega))
theorem VEq.lp_1 {a0 b0 : Int} : VEq (.c (.d (.sl 2 [[dI a0, dI b0]].length fun i => [[dI a0, dI b0]].getD i []))) (.c (prs [(a0, b0)])) := .c _ _ CEq.lp_1
theorem CEq.lp_2 {a0 b0 a1 b1 : Int} : CEq (.d (.sl 2 [[dI a0, dI b0], [dI a1, dI b1]].length fun i => [[dI a0, dI b0], [dI a1, dI b1]].getD i [])) (prs [(a0, b0), (a1, b1)]) := CEq.sl rfl (fun i hi => by
  rcases i with _ | i
  · rfl
  rcases i with _ | i
  · rfl
  exact absurd hi (by simp only [List.length_cons, List.length_nil]; omega))
theorem VEq.lp_2 {a0 b0 a1 b1 : Int} : VEq (.c (.d (.sl 2 [[dI a0, dI b0], [dI a1, dI b1]].length fun i => [[dI a0, dI b0], [dI a1, dI b1]].getD i []))) (.c (prs [(a0, b0), (a1, b1)])) := .c _ _ CEq.lp_2
theorem CEq.lp_3 {a0 b0 a1 b1 a2 b2 : Int} : CEq (.d (.sl 2 [[dI a0, dI b0], [dI a1, dI b1], [dI a2, dI b2]].length fun i => [[dI a0, dI b0], [dI a1, dI b1], [dI a2, dI b2]].getD i [])) (prs [(a0, b0), (a1, b1), (a2, b2)]) := CEq.sl rfl (fun i hi => by
  rcases i with _ | i
  · rfl
  rcases i with _ | i
  · rfl
  rcases i with _ | i
  · rfl
  exact absurd hi (by simp only [List.length_cons, List.length_nil]; omega))
theorem VEq.lp_3 {a0 b0 a1 b1 a2 b2 : Int} : VEq (.c (.d (.sl 2 [[dI a0, dI b0], [dI a1, dI b1], [dI a2, dI b2]].length fun i => [[dI a0, dI b0], [dI a1, dI b1], [dI a2, dI b2]].getD i []))) (.c (prs [(a0, b0), (a1, b1), (a2, b2)])) := .c _ _ CEq.lp_3
theorem CEq.lp_4 {a0 b0 a1 b1 a2 b2 a3 b3 : Int} : CEq (.d (.sl 2 [[dI a0, dI b0], [dI a1, dI b1], [dI a2, dI b2], [dI a3, dI b3]].length fun i => [[dI a0, dI b0], [dI a1, dI b1], [dI a2, dI b2], [dI a3, dI b3]].getD i [])) (prs [(a0, b0), (a1, b1), (a2, b2), (a3, b3)]) := CEq.sl rfl (fun i hi => by
  rcases i with _ | i
  · rfl
  rcases i with _ | i
  · rfl
  rcases i with _ | i
  · rfl
  rcases i with _ | i
  · rfl
  exact absurd hi (by simp only [List.length_cons, List.length_nil]; omega))
theorem VEq.lp_4 {a0 b0 a1 b1 a2 b2 a3 b3 : Int} : VEq (.c (.d (.sl 2 [[dI a0, dI b0], [dI a1, dI b1], [dI a2, dI b2], [dI a3, dI b3]].length fun i => [[dI a0, dI b0], [dI a1, dI b1], [dI a2, dI b2], [dI a3, dI b3]].getD i []))) (.c (prs [(a0, b0), (a1, b1), (a2, b2), (a3, b3)])) := .c _ _ CEq.lp_4
theorem CEq.lt_1 {a0 b0 c0 : Int} : CEq (.d (.sl 3 [[dI a0, dI b0, dI c0]].length fun i => [[dI a0, dI b0, dI c0]].getD i [])) (trs [(a0, b0, c0)]) := CEq.sl rfl (fun i hi => by
  rcases i with _ | i
  · rfl
  exact absurd hi (by simp only [List.length_cons, List.length_nil]; omega))
theorem VEq.lt_1 {a0 b0 c0 : Int} : VEq (.c (.d (.sl 3 [[dI a0, dI b0, dI c0]].length fun i => [[dI a0, dI b0, dI c0]].getD i []))) (.c (trs [(a0, b0, c0)])) := .c _ _ CEq.lt_1
theorem CEq.lt_2 {a0 b0 c0 a1 b1 c1 : Int} : CEq (.d (.sl 3 [[dI a0, dI b0, dI c0], [dI a1, dI b1, dI c1]].length fun i => [[dI a0, dI b0, dI c0], [dI a1, dI b1, dI c1]].getD i [])) (trs [(a0, b0, c0), (a1, b1, c1)]) := CEq.sl rfl (fun i hi => by
  rcases i with _ | i
  · rfl
  rcases i with _ | i
  · rfl
  exact absurd hi (by simp only [List.length_cons, List.length_nil]; omega))
theorem VEq.lt_2 {a0 b0 c0 a1 b1 c1 : Int} : VEq (.c (.d (.sl 3 [[dI a0, dI b0, dI c0], [dI a1, dI b1, dI c1]].length fun i => [[dI a0, dI b0, dI c0], [dI a1, dI b1, dI c1]].getD i []))) (.c (trs [(a0, b0, c0), (a1, b1, c1)])) := .c _ _ CEq.lt_2
theorem CEq.lt_3 {a0 b0 c0 a1 b1 c1 a2 b2 c2 : Int} : CEq (.d (.sl 3 [[dI a0, dI b0, dI c0], [dI a1, dI b1, dI c1], [dI a2, dI b2, dI c2]].length fun i => [[dI a0, dI b0, dI c0], [dI a1, dI b1, dI c1], [dI a2, dI b2, dI c2]].getD i [])) (trs [(a0, b0, c0), (a1, b1, c1), (a2, b2, c2)]) := CEq.sl rfl (fun i hi => by
  rcases i with _ | i
  · rfl
  rcases i with _ | i
  · rfl
  rcases i with _ | i
  · rfl
  exact absurd hi (by simp only [List.length_cons, List.length_nil]; omega))
theorem VEq.lt_3 {a0 b0 c0 a1 b1 c1 a2 b2 c2 : Int} : VEq (.c (.d (.sl 3 [[dI a0, dI b0, dI c0], [dI a1, dI b1, dI c1], [dI a2, dI b2, dI c2]].length fun i => [[dI a0, dI b0, dI c0], [dI a1, dI b1, dI c1], [dI a2, dI b2, dI c2]].getD i []))) (.c (trs [(a0, b0, c0), (a1, b1, c1), (a2, b2, c2)])) := .c _ _ CEq.lt_3
section
variable {P : Program} {N base : Nat}
def keepK : List Nat → List (Nat × V) → (List (Nat × V) → Prop) → Prop
  | [], _, k => k []
  | t :: ts, env, k => frV (lk env t) fun v => keepK ts env fun e => k ((t, v) :: e)
def keepE (env : List (Nat × V)) : List Nat → List (Nat × V)
  | [] => []
  | t :: ts => (t, lk env t) :: keepE env ts
theorem keepK_eq : ∀ (ts : List Nat) (env : List (Nat × V)) (k : List (Nat × V) → Prop), keepK ts env k = k (keepE env ts)
  | [], env, k => rfl
  | t :: ts, env, k => by simp only [keepK, frV_eq, keepK_eq ts, keepE]
theorem lk_keepE {env : List (Nat × V)} {t : Nat} : ∀ (ts : List Nat), RI (lk env t) (lk (keepE env ts) t)
  | [] => fun _ _ _ _ => .unk _
  | x :: ts => by
    rw [keepE, lk_cons]
    split
    · rename_i h; subst h; exact RI.refl _
    · exact lk_keepE ts
theorem Mv.keep {env : List (Nat × V)} {σ : Store} {nx : Nat} (ts : List Nat) : Mv base ⟨env, σ, nx⟩ ⟨keepE env ts, σ, nx⟩ := Mv.env fun t => lk_keepE ts
theorem Sat.keep {x : LCode} {env : List (Nat × V)} {σ : Store} {nx : Nat} {Q : Exit → St → Prop} (ts : List Nat) (h : keepK ts env fun env' => SatL P N base x ⟨env', σ, nx⟩ Q) : SatL P N base x ⟨env, σ, nx⟩ Q := by
  rw [keepK_eq] at h
  exact ⟨Sat.from (Mv.keep ts) h.h⟩
theorem RetQ.of {nx : Nat} {rl : List RL} {vs vs0 : List V} {σ' : Store} {nx' : Nat} {e : Exit} {env : List (Nat × V)} {σ : Store} {nx1 : Nat} (he : e = .normal ∨ e = .ret) (hres : resAll env σ rl = some vs0) (hl : Nat.beq vs0.length vs.length = true) (h : Mv nx ⟨argEnv 0 vs0, σ, nx1⟩ ⟨argEnv 0 vs, σ', nx'⟩) : RetQ nx rl vs σ' nx' e ⟨env, σ, nx1⟩ :=
  ⟨he, vs0, hres, Nat.eq_of_beq_eq_true hl, h⟩
theorem Mv.plain {nx nx1 nx' : Nat} {env : List (Nat × V)} {σ : Store} {vs : List V} (hle : Nat.ble nx nx' = true) (h : envIs env (argEnv 0 vs)) : Mv nx ⟨env, σ, nx1⟩ ⟨argEnv 0 vs, [], nx'⟩ :=
  Mv.weaken (Wk.plain (Nat.le_of_ble_eq_true hle) h)
def putAt : List C → Nat → C → List C
  | [], _, _ => []
  | _ :: cs, 0, x => x :: cs
  | c :: cs, n + 1, x => c :: putAt cs n x
theorem putAt_get : ∀ (cs : List C) (n i : Nat) (x : C), (putAt cs n x)[i]? = if i = n ∧ n < cs.length then some x else cs[i]?
  | [], n, i, x => by simp [putAt]
  | c :: cs, 0, i, x => by cases i <;> simp [putAt]
  | c :: cs, n + 1, i, x => by cases i <;> simp [putAt, putAt_get cs n]
theorem putAt_length : ∀ (cs : List C) (n : Nat) (x : C), (putAt cs n x).length = cs.length
  | [], _, _ => rfl
  | _ :: _, 0, _ => rfl
  | _ :: cs, n + 1, x => by simp [putAt, putAt_length cs n x]
theorem OpsL.frz {ops : List LIns} {K : St → Prop} {env : List (Nat × V)} {σ : Store} {nx : Nat} (t id : Nat) {n : Nat} {e : TypeId} {s m : Nat} {f : Nat → List D} {fz : Bool} (h : lk env t = .c (.ms id n)) (hg : get σ id = some (.row e s m f fz)) (hn : n ≤ m)
    (k : frS (set σ id (.row e s m f true)) fun σ' => OpsL P N base ops ⟨(t, .c (.d (.sl s n f))) :: env, σ', nx⟩ K) : OpsL P N base ops ⟨env, σ, nx⟩ K := by
  rw [frS_eq] at k
  exact ⟨Ops.from (Mv.freeze t id h hg hn) k.h⟩
theorem MvQ.frz {Q : Exit → St → Prop} {x : Exit} {env : List (Nat × V)} {σ : Store} {nx : Nat} (t id : Nat) {n : Nat} {e : TypeId} {s m : Nat} {f : Nat → List D} {fz : Bool} (h : lk env t = .c (.ms id n)) (hg : get σ id = some (.row e s m f fz)) (hn : n ≤ m)
    (k : frS (set σ id (.row e s m f true)) fun σ' => MvQ base Q x ⟨(t, .c (.d (.sl s n f))) :: env, σ', nx⟩) : MvQ base Q x ⟨env, σ, nx⟩ := by
  rw [frS_eq] at k
  exact MvQ.from (Mv.freeze t id h hg hn) k
theorem Mv.nilB {env : List (Nat × V)} {σ : Store} {nx : Nat} (idb j : Nat) (e : TypeId) (s : Nat) (f : Nat → List D) {cs : List C} (hg : get σ idb = some (.box cs)) (hj : cs[j]? = some (.d (.v (.slice none 0 0)))) :
    Mv base ⟨env, σ, nx⟩ ⟨env, set ((nx, .row e s 0 f false) :: σ) idb (.box (putAt cs j (.ms nx 0))), nx + 1⟩ := fun N B0 Γ w a hc => by
  have hid := hc.free nx (Nat.le_refl _)
  obtain ⟨h1, h2⟩ := name_nil hc.ok hid hc.le e s f
  obtain ⟨b, hb, hok⟩ := hc.ok.ok idb _ hg
  have hne : idb ≠ nx := fun h => by subst h; rw [hid] at hb; cases hb
  have hg' : get ((nx, Ent.row e s 0 f false) :: σ) idb = some (.box cs) := by rw [get_cons_other hne]; exact hg
  have hb' : (Γ.upd nx 0 none).ρ idb = some b := by rw [upd_ρ hne]; exact hb
  have hle := CxLe.upd Γ 0 none hid
  obtain ⟨b2, hb2, hok2⟩ := h1.ok idb _ hg'
  rw [hb'] at hb2; cases hb2
  obtain ⟨hI, xs, t, hh, hl, hr⟩ := hok2
  have h3 := h1.modify (w' := w) (e' := .box (putAt cs j (.ms nx 0))) hg' hb' trivial (Nat.le_refl _) (fun _ _ _ => rfl) ⟨hI, xs, t, hh, by rw [hl, putAt_length], fun i c hc' => by
    rw [putAt_get] at hc'
    split at hc'
    · rename_i hi
      cases hc'
      obtain ⟨rfl, hi⟩ := hi
      obtain ⟨x, hx, hrx⟩ := hr i _ hj
      refine ⟨x, hx, 0, upd_ρ_same, .inl ⟨rfl, upd_κ_same, ?_⟩⟩
      generalize hd : D.v (.slice none 0 0) = d at hrx
      cases (show RepD _ w d x from hrx) <;> first | cases hd
      rfl
    · exact hr i c hc'⟩
  have hext : Ext base Γ w σ (Γ.upd nx 0 none) w (set ((nx, .row e s 0 f false) :: σ) idb (.box (putAt cs j (.ms nx 0)))) :=
    ⟨h2.os, h2.tape, h2.output, h2.size, h2.im, h2.new, h2.ρ, h2.κ, h2.keep, fun k hk => h2.live k (live_set hg' trivial hk)⟩
  refine ⟨_, ⟨hc.size, fun t' => (hc.env t').mono hle (fun _ _ => rfl), h3, fun id hid' => ?_, Nat.le_succ_of_le hc.le, ?_⟩, hext⟩
  · rw [upd_ρ (by have : nx + 1 ≤ id := hid'; omega)]; exact hc.free id (by have : nx + 1 ≤ id := hid'; show nx ≤ id; omega)
  · obtain ⟨Ds, d1, d2, d3⟩ := hc.dfs
    refine ⟨Ds, d1, d2, fun D hD => ?_⟩
    obtain ⟨d4, d5, d6, d7⟩ := d3 D hD
    refine ⟨d4, d5, fun hlv => ?_, d7⟩
    rcases hext.live D hlv with h3 | h3
    · exact d6 h3
    · have := (Array.getElem?_eq_some_iff.1 d7).1; omega
theorem Sat.nilB {x : LCode} {env : List (Nat × V)} {σ : Store} {nx : Nat} {Q : Exit → St → Prop} (idb j : Nat) (e : TypeId) (s : Nat) (f : Nat → List D) {cs : List C} (hg : get σ idb = some (.box cs)) (hj : cs[j]? = some (.d (.v (.slice none 0 0))))
    (h : frS (set ((nx, .row e s 0 f false) :: σ) idb (.box (putAt cs j (.ms nx 0)))) fun σ' => frNat (nx + 1) fun nx' => SatL P N base x ⟨env, σ', nx'⟩ Q) : SatL P N base x ⟨env, σ, nx⟩ Q := by
  rw [frS_eq, frNat_eq] at h
  exact ⟨Sat.from (Mv.nilB idb j e s f hg hj) h.h⟩
theorem Sat.nilS {x : LCode} {env : List (Nat × V)} {σ : Store} {nx : Nat} {Q : Exit → St → Prop} (t : Nat) (e : TypeId) (s : Nat) (f : Nat → List D) (h : lk env t = .c (.d (.v (.slice none 0 0))))
    (k : frNat (nx + 1) fun nx' => SatL P N base x ⟨(t, .c (.ms nx 0)) :: env, (nx, .row e s 0 f false) :: σ, nx'⟩ Q) : SatL P N base x ⟨env, σ, nx⟩ Q := by
  rw [frNat_eq] at k
  exact ⟨Sat.from (Mv.nilms t e s f h) k.h⟩
end
end Go.Pw
set_option linter.unusedVariables false
set_option linter.unusedSectionVars false
namespace Go.Pw
open Go Go.RowKit Go.ChangeShapes Go.WideShapes
inductive Sh
  | int (k : IntKind)
  | bool
  | str
  | sl (row : List Sh)
def shFields (cells : TypeId → Nat) (sh : TypeId → Option (List Sh)) : Nat → List Field → Option (List Sh)
  | _, [] => some []
  | o, f :: fs => if f.offset = o then (sh f.type).bind fun a => if a.length = cells f.type then (shFields cells sh (o + cells f.type) fs).map fun b => a ++ b else none else none
def shOf (P : Program) : Nat → TypeId → Option (List Sh)
  | 0, _ => none
  | m + 1, t => match P.underlying t with
    | some (.int k) => some [.int k]
    | some .bool => some [.bool]
    | some .string => some [.str]
    | some (.struct fs) => (shFields P.cellsOf (shOf P m) 0 fs.toList).bind fun l => if l.length = P.cellsOf t then some l else none
    | some (.array n e) => (shOf P m e).bind fun a => if a.length = P.cellsOf e ∧ n * P.cellsOf e = P.cellsOf t then some (List.replicate n a).flatten else none
    | some (.slice e) => (shOf P m e).bind fun a => if a.length = P.cellsOf e ∧ a.length ≠ 0 then some [.sl a] else none
    | _ => none
mutual
def OkD : Sh → D → Prop
  | .int k, d => ∃ n, d = .v (.int k n) ∧ k.has n = true
  | .bool, d => ∃ b, d = .v (.bool b)
  | .str, d => ∃ s : ByteArray, d = .v (.string s) ∧ s.size ≤ maxLen
  | .sl row, d => ∃ n f, d = .sl row.length n f ∧ n ≤ maxLen ∧ ∀ i, i < n → OkDs row (f i)
def OkDs : List Sh → List D → Prop
  | [], [] => True
  | s :: ss, d :: ds => OkD s d ∧ OkDs ss ds
  | _, _ => False
end
theorem OkDs.length : ∀ {ss : List Sh} {ds : List D}, OkDs ss ds → ds.length = ss.length
  | [], [], _ => rfl
  | s :: ss, d :: ds, h => by unfold OkDs at h; simp [OkDs.length h.2]
  | [], _ :: _, h => by unfold OkDs at h; exact h.elim
  | _ :: _, [], h => by unfold OkDs at h; exact h.elim
theorem OkDs.app : ∀ {ss tt : List Sh} {ds es : List D}, OkDs ss ds → OkDs tt es → OkDs (ss ++ tt) (ds ++ es)
  | [], _, [], _, _, h => h
  | s :: ss, tt, d :: ds, es, h, h' => by
    unfold OkDs at h
    show OkDs (s :: (ss ++ tt)) (d :: (ds ++ es))
    unfold OkDs
    exact ⟨h.1, OkDs.app h.2 h'⟩
  | [], _, _ :: _, _, h, _ => by unfold OkDs at h; exact h.elim
  | _ :: _, _, [], _, h, _ => by unfold OkDs at h; exact h.elim
def Reps (I : Nat → Prop) (w : World) (ds : List D) (cs : List Value) : Prop := cs.length = ds.length ∧ ∀ (i : Nat) d u, ds[i]? = some d → cs[i]? = some u → RepD I w d u
theorem Reps.nil {I : Nat → Prop} {w : World} : Reps I w [] [] := ⟨rfl, fun i d u h => by simp at h⟩
theorem Reps.one {I : Nat → Prop} {w : World} {d : D} {u : Value} (h : RepD I w d u) : Reps I w [d] [u] := ⟨rfl, fun i d' u' hd hu => by
  cases i with
  | zero => simp at hd hu; subst hd; subst hu; exact h
  | succ i => simp at hd⟩
theorem Reps.app {I : Nat → Prop} {w : World} {ds es : List D} {cs us : List Value} (h : Reps I w ds cs) (h' : Reps I w es us) : Reps I w (ds ++ es) (cs ++ us) := by
  refine ⟨by simp [h.1, h'.1], fun i d u hd hu => ?_⟩
  rcases Nat.lt_or_ge i ds.length with hi | hi
  · rw [List.getElem?_append_left hi] at hd
    rw [List.getElem?_append_left (by rw [h.1]; exact hi)] at hu
    exact h.2 i d u hd hu
  · rw [List.getElem?_append_right hi] at hd
    rw [List.getElem?_append_right (by rw [h.1]; exact hi), h.1] at hu
    exact h'.2 _ d u hd hu
section
variable {H : Type} {enc : TypeId × Value → H} {P : Program} {w : World} {base : Nat} {spare : Nat → Bool} {held : Bool}
theorem trod_array' {t e : TypeId} {n fuel : Nat} {cs : List Value} {x : DataW H × List MemPlace} (ht : P.underlying t = some (.array n e)) (h : DataW.trod enc P w base spare held fuel t cs = some x) :
    ∃ m, cs.length = P.cellsOf t ∧ ∀ i, i < n → ∃ y, DataW.trod enc P w base spare held m e ((cs.drop (i * P.cellsOf e)).take (P.cellsOf e)) = some y := by
  cases fuel with
  | zero => simp [DataW.trod] at h
  | succ m =>
    unfold DataW.trod at h
    rw [ht] at h
    simp only at h
    split at h
    · rename_i hl
      rw [Option.map_eq_some_iff] at h
      obtain ⟨xs, h1, _⟩ := h
      refine ⟨m, hl, fun i hi => ?_⟩
      have := mapM_some_get h1 i i (by simp [hi])
      have hlen := mapM_some_length h1
      rw [List.getElem?_eq_getElem (by rw [hlen]; simpa using hi)] at this
      exact ⟨_, this⟩
    · cases h
theorem trod_fields {m : Nat} (ih : ∀ (t : TypeId) (sh : List Sh) (fuel : Nat) (cs : List Value) (x : DataW H × List MemPlace), shOf P m t = some sh → DataW.trod enc P w base spare held fuel t cs = some x → ∃ ds, OkDs sh ds ∧ Reps (fun b => b < w.heap.size) w ds cs) {fuel : Nat} :
    ∀ (fs : List Field) (o : Nat) (sh : List Sh) (cs : List Value), shFields P.cellsOf (shOf P m) o fs = some sh → (∀ f ∈ fs, ∃ y, DataW.trod enc P w base spare held fuel f.type ((cs.drop f.offset).take (P.cellsOf f.type)) = some y) →
      o + sh.length = cs.length → ∃ ds, OkDs sh ds ∧ Reps (fun b => b < w.heap.size) w ds (cs.drop o)
  | [], o, sh, cs, h, _, hl => by
    simp only [shFields, Option.some.injEq] at h
    subst h
    refine ⟨[], by unfold OkDs; trivial, ?_⟩
    rw [List.drop_of_length_le (by simp at hl; omega)]
    exact Reps.nil
  | f :: fs, o, sh, cs, h, hf, hl => by
    simp only [shFields] at h
    split at h
    · rename_i ho
      rw [Option.bind_eq_some_iff] at h
      obtain ⟨a, ha, h⟩ := h
      split at h
      · rename_i hal
        rw [Option.map_eq_some_iff] at h
        obtain ⟨b, hb, rfl⟩ := h
        obtain ⟨y, hy⟩ := hf f (by simp)
        rw [ho] at hy
        obtain ⟨ds, h1, h2⟩ := ih f.type a fuel _ y ha hy
        rw [List.length_append] at hl
        obtain ⟨es, h3, h4⟩ := trod_fields ih fs (o + P.cellsOf f.type) b cs hb (fun g hg => hf g (by simp [hg])) (by omega)
        refine ⟨ds ++ es, h1.app h3, ?_⟩
        have := h2.app h4
        rwa [← List.drop_drop, List.take_append_drop] at this
      · cases h
    · cases h
theorem reps_array {I : Nat → Prop} {c : Nat} {sh : List Sh} : ∀ (n : Nat) (cs : List Value), cs.length = n * c → (∀ i, i < n → ∃ ds, OkDs sh ds ∧ Reps I w ds ((cs.drop (i * c)).take c)) → ∃ ds, OkDs (List.replicate n sh).flatten ds ∧ Reps I w ds cs
  | 0, cs, hl, _ => by
    have : cs = [] := List.length_eq_zero_iff.1 (by simpa using hl)
    subst this
    exact ⟨[], by simp only [List.replicate, List.flatten]; unfold OkDs; trivial, Reps.nil⟩
  | n + 1, cs, hl, h => by
    obtain ⟨ds, h1, h2⟩ := h 0 (Nat.succ_pos _)
    obtain ⟨es, h3, h4⟩ := reps_array (c := c) (sh := sh) n (cs.drop c) (by rw [List.length_drop, hl, Nat.succ_mul]; omega) (fun i hi => by
      obtain ⟨es, h3, h4⟩ := h (i + 1) (by omega)
      refine ⟨es, h3, ?_⟩
      rwa [List.drop_drop, show c + i * c = (i + 1) * c by rw [Nat.succ_mul]; omega])
    refine ⟨ds ++ es, ?_, ?_⟩
    · rw [List.replicate_succ, List.flatten_cons]; exact h1.app h3
    · simp only [Nat.zero_mul, List.drop_zero] at h2
      have := h2.app h4
      rwa [List.take_append_drop] at this
theorem has_of_wf {k : IntKind} {n : Int} (h : (Lit.int k n).wf = true) : k.has n = true := by
  simpa [Lit.wf, IntKind.has] using h
theorem trod_reps : ∀ (m : Nat) (t : TypeId) (sh : List Sh) (fuel : Nat) (cs : List Value) (x : DataW H × List MemPlace), shOf P m t = some sh → DataW.trod enc P w base spare held fuel t cs = some x →
    ∃ ds, OkDs sh ds ∧ Reps (fun b => b < w.heap.size) w ds cs := by
  intro m
  induction m with
  | zero => intro t sh fuel cs x h; simp [shOf] at h
  | succ m ih =>
    intro t sh fuel cs x h hx
    unfold shOf at h
    split at h
    · rename_i k hu
      cases h
      obtain ⟨n, rfl, _, hw⟩ := DataW.trod_int hu hx
      exact ⟨[.v (.int k n)], by unfold OkDs; exact ⟨by unfold OkD; exact ⟨n, rfl, has_of_wf hw⟩, by unfold OkDs; trivial⟩, Reps.one (.v _ rfl)⟩
    · rename_i hu
      cases h
      obtain ⟨b, rfl, _⟩ := DataW.trod_bool hu hx
      exact ⟨[.v (.bool b)], by unfold OkDs; exact ⟨by unfold OkD; exact ⟨b, rfl⟩, by unfold OkDs; trivial⟩, Reps.one (.v _ rfl)⟩
    · rename_i hu
      cases h
      obtain ⟨s, rfl, _, hs⟩ := DataW.trod_string hu hx
      exact ⟨[.v (.string s)], by unfold OkDs; exact ⟨by unfold OkD; exact ⟨s, rfl, hs⟩, by unfold OkDs; trivial⟩, Reps.one (.v _ rfl)⟩
    · rename_i fs hu
      rw [Option.bind_eq_some_iff] at h
      obtain ⟨l, hl, h⟩ := h
      split at h
      · rename_i hc
        cases h
        obtain ⟨xs, n, rfl, _, hlen, hxl, hfs⟩ := DataW.trod_struct hu hx
        obtain ⟨ds, h1, h2⟩ := trod_fields (fuel := n) ih fs.toList 0 sh cs hl (fun f hf => by
          obtain ⟨i, hi, rfl⟩ := List.getElem_of_mem hf
          have h3 := hfs i fs.toList[i] (by simp)
          rw [List.getElem?_eq_getElem (by rw [hxl]; simpa using hi)] at h3
          exact ⟨_, h3⟩) (by omega)
        exact ⟨ds, h1, by simpa using h2⟩
      · cases h
    · rename_i n e hu
      rw [Option.bind_eq_some_iff] at h
      obtain ⟨a, ha, h⟩ := h
      split at h
      · rename_i hc
        cases h
        obtain ⟨m', hlen, hy⟩ := trod_array' hu hx
        exact reps_array n cs (by rw [hlen, hc.2]) (fun i hi => by
          obtain ⟨y, hy⟩ := hy i hi
          exact ih e a m' _ y ha hy)
      · cases h
    · rename_i e hu
      rw [Option.bind_eq_some_iff] at h
      obtain ⟨a, ha, h⟩ := h
      split at h
      · rename_i hca
        obtain ⟨hc, hca⟩ := hca
        cases h
        rcases Deep.open_slice hu hx with ⟨rfl, _⟩ | ⟨ad, len, cap, mm, n, D0, Pl, rfl, _, hlc, hcm, hmm, _, hel⟩
        · exact ⟨[.sl a.length 0 fun _ => []], by unfold OkDs; exact ⟨by unfold OkD; exact ⟨0, _, rfl, Nat.zero_le _, fun i hi => absurd hi (Nat.not_lt_zero _)⟩, by unfold OkDs; trivial⟩, Reps.one (.slE _ _ _ _)⟩
        · have hle : len ≤ mm := by rw [hmm]; split <;> omega
          have hall : ∀ i, i < len → ∃ p : List D × List Value, OkDs a p.1 ∧ Reps (fun b => b < w.heap.size) w p.1 p.2 ∧ w.cells? base (ad.add (i * P.cellsOf e)) (P.cellsOf e) = some p.2 := fun i hi => by
            obtain ⟨cs', h1, h2⟩ := hel i (by omega)
            obtain ⟨ds, h3, h4⟩ := ih e a n cs' _ ha h2
            exact ⟨(ds, cs'), h3, h4, h1⟩
          obtain ⟨f, hf⟩ := Deep.choose_lt hall
          refine ⟨[.sl a.length len fun i => (f i).1], by unfold OkDs; exact ⟨by unfold OkD; exact ⟨len, _, rfl, by omega, fun i hi => (hf i hi).1⟩, by unfold OkDs; trivial⟩, Reps.one ?_⟩
          by_cases h0 : len = 0
          · subst h0; exact .slE _ _ _ _
          refine .sl _ _ _ _ _ (fun i j => ((f i).2[j]?).getD (.bool false)) hlc ?_ (fun i hi => (hf i hi).1.length) (fun i j d hi hd => ?_) (fun i j d hi hd => ?_)
          · obtain ⟨_, h2, h3⟩ := hf 0 (by omega)
            have := World.cells?_block h3 (by omega)
            unfold Addr.add at this
            simpa using this
          · obtain ⟨h1, h2, h3⟩ := hf i hi
            obtain ⟨_, h4, h5⟩ := World.cells?_some h3
            have hj : j < (f i).1.length := (List.getElem?_eq_some_iff.1 hd).1
            rw [h2.1.symm, h4] at hj
            have h6 := h5 j hj
            rw [List.getElem?_eq_getElem (by omega)] at h6
            rw [Deep.add_add] at h6
            rw [hc, h6, List.getElem?_eq_getElem (by omega)]
            rfl
          · obtain ⟨h1, h2, h3⟩ := hf i hi
            have hj : j < (f i).1.length := (List.getElem?_eq_some_iff.1 hd).1
            rw [← h2.1] at hj
            rw [List.getElem?_eq_getElem hj]
            exact h2.2 j d _ hd (List.getElem?_eq_getElem hj)
      · cases h
    · cases h
def shAll (P : Program) : List TypeId → Option (List (Bool × List Sh))
  | [] => some []
  | t :: ts => (shOf P 20 t).bind fun s => if P.readableRec t = true ∧ t < P.types.size then (shAll P ts).map fun r => ((match P.underlying t with | some (.struct _) | some (.array _ _) => true | _ => false), s) :: r else none
def ArgOk : List (Bool × List Sh) → List V → Prop
  | [], [] => True
  | (b, sh) :: r, v :: vs => (∃ ds, OkDs sh ds ∧ (b = true ∧ v = .agg (ds.map .d) ∨ b = false ∧ ∃ d, ds = [d] ∧ v = .c (.d d))) ∧ ArgOk r vs
  | _, _ => False
theorem okWide_agg {t : TypeId} {v : Value} (h : Value.okWide P w .any base t v) (hb : (match P.underlying t with | some (.struct _) | some (.array _ _) => true | _ => false) = true) : ∃ cs, v = .agg cs := by
  unfold Value.okWide at h
  split at hb
  · rename_i fs hu; rw [hu] at h; exact ⟨_, h.choose_spec.1⟩
  · rename_i n e hu; rw [hu] at h; exact ⟨_, h.choose_spec.1⟩
  · cases hb
theorem below_all (hl : laidOutB P = true) {W W' : World} (hb : Below W.heap.size W W') : ∀ {ts : List TypeId} {vs : List Value} {ds : List (DataW H)} {p : List MemPlace} {shs : List (Bool × List Sh)}, shAll P ts = some shs →
    DataW.TrodAll enc P W 0 (fun _ => true) true ts vs ds p → DataW.TrodAll enc P W' 0 (fun b => decide (b < W.heap.size)) true ts vs ds p
  | [], _, _, _, _, _, h => by
    obtain ⟨rfl, rfl, rfl⟩ := trodAll_nil h
    exact trodAll_mk0
  | t :: ts, _, _, _, _, hs, h => by
    have hlt := h.lt
    obtain ⟨v, vs1, d, ds1, a, b, rfl, rfl, rfl, h1, h2⟩ := trodAll_cons h
    simp only [shAll, Option.bind_eq_some_iff] at hs
    obtain ⟨s, _, hs⟩ := hs
    split at hs
    · rename_i hr
      rw [Option.map_eq_some_iff] at hs
      obtain ⟨r, hr', _⟩ := hs
      exact ⟨a, b, Below.trod hl hr.1 hr.2 h1 hb (fun x hx => hlt x (by simp [hx])), below_all hl hb hr' h2, rfl⟩
    · cases hs
theorem args_rep {Γ : Cx} (hΓ : Γ.I = fun b => b < w.heap.size) : ∀ {ts : List TypeId} {vs : List Value} {ds : List (DataW H)} {p : List MemPlace} {shs : List (Bool × List Sh)}, shAll P ts = some shs →
    DataW.TrodAll enc P w 0 (fun _ => true) true ts vs ds p → (∀ (j : Nat) t v, ts[j]? = some t → vs[j]? = some v → Value.okWide P w .any base t v) →
    ∃ args : List V, ArgOk shs args ∧ vs.length = args.length ∧ ∀ (i : Nat) v u, args[i]? = some v → vs[i]? = some u → RepV Γ w v u
  | [], _, _, _, _, hs, h, _ => by
    obtain ⟨rfl, rfl, rfl⟩ := trodAll_nil h
    simp only [shAll, Option.some.injEq] at hs
    subst hs
    exact ⟨[], trivial, rfl, fun i v u h => by simp at h⟩
  | t :: ts, _, _, _, _, hs, h, hv => by
    obtain ⟨v, vs1, d, ds1, a, b, rfl, rfl, rfl, h1, h2⟩ := trodAll_cons h
    simp only [shAll, Option.bind_eq_some_iff] at hs
    obtain ⟨s, hs1, hs⟩ := hs
    split at hs
    · rename_i hr
      rw [Option.map_eq_some_iff] at hs
      obtain ⟨r, hr', rfl⟩ := hs
      obtain ⟨args, q1, q2, q3⟩ := args_rep hΓ hr' h2 (fun j t' v' hj hj' => hv (j + 1) t' v' (by simpa using hj) (by simpa using hj'))
      obtain ⟨fuel, hx⟩ := h1
      obtain ⟨es, e1, e2⟩ := trod_reps 20 t s fuel _ _ hs1 hx
      have hok := hv 0 t v rfl rfl
      have hcons : ∀ x : V, RepV Γ w x v → ∀ (i : Nat) (y : V) (u : Value), (x :: args)[i]? = some y → (v :: vs1)[i]? = some u → RepV Γ w y u := fun x hx i y u hy hu => by
        cases i with
        | zero => simp at hy hu; subst hy; subst hu; exact hx
        | succ i => exact q3 i y u (by simpa using hy) (by simpa using hu)
      cases hb : (match P.underlying t with | some (.struct _) | some (.array _ _) => true | _ => false) with
      | true =>
        obtain ⟨cs, rfl⟩ := okWide_agg hok hb
        refine ⟨.agg (es.map .d) :: args, ⟨⟨es, e1, .inl ⟨rfl, rfl⟩⟩, q1⟩, by simp [q2], hcons _ ?_⟩
        have e3 : cs.toList.length = es.length := e2.1
        refine .agg _ _ (by simpa using e3) (fun i c u hc hu => ?_)
        simp only [List.getElem?_map, Option.map_eq_some_iff] at hc
        obtain ⟨dd, hd, rfl⟩ := hc
        show RepD Γ.I w dd u
        rw [hΓ]
        exact e2.2 i dd u hd (by show cs.toList[i]? = some u; simpa using hu)
      | false =>
        have hone : v.cells.toList = [v] ∨ ∃ cs, v = .agg cs := by
          cases v <;> first | exact .inl rfl | exact .inr ⟨_, rfl⟩
        have hcell : Cell.okWide P w .any base t v := by
          unfold Value.okWide at hok
          split at hok
          · rename_i hu; rw [hu] at hb; cases hb
          · rename_i hu; rw [hu] at hb; cases hb
          · exact hok
        have hsl : s.length = 1 := by
          unfold shOf at hs1
          split at hs1
          · cases hs1; rfl
          · cases hs1; rfl
          · cases hs1; rfl
          · rename_i hu; rw [hu] at hb; cases hb
          · rename_i hu; rw [hu] at hb; cases hb
          · rw [Option.bind_eq_some_iff] at hs1
            obtain ⟨a, _, hs1⟩ := hs1
            split at hs1
            · cases hs1; rfl
            · cases hs1
          · cases hs1
        obtain ⟨dd, rfl⟩ : ∃ dd, es = [dd] := by
          have := e1.length
          rw [hsl] at this
          exact List.length_eq_one_iff.1 this
        refine ⟨.c (.d dd) :: args, ⟨⟨[dd], e1, .inr ⟨rfl, dd, rfl, rfl⟩⟩, q1⟩, by simp [q2], hcons _ ?_⟩
        have hvc : v.cells.toList = [v] := by
          rcases hone with h | ⟨cs, rfl⟩
          · exact h
          · exfalso
            unfold shOf at hs1
            split at hs1 <;> rename_i hu <;> first | (simp [Cell.okWide, Cell.ok, hu] at hcell; done) | (rw [hu] at hb; cases hb) | cases hs1
        refine .c _ _ ?_
        show RepD Γ.I w dd v
        rw [hΓ]
        exact e2.2 0 dd v rfl (by rw [hvc]; rfl)
    · cases hs
theorem storeOk_nil {Γ : Cx} (h : ∀ k, Γ.I k → k < w.heap.size) (hl : LayOk Γ.I w) : StoreOk Γ w [] :=
  ⟨h, fun id e hg => by simp [get] at hg, fun i j k hi => by
    rcases hi with ⟨_, h⟩ | ⟨_, _, _, _, h, _⟩ | ⟨_, _, _, _, h⟩ | ⟨_, _, h⟩ <;> simp [get] at h, hl⟩
theorem not_live_nil {Γ : Cx} {k : Nat} : ¬ Live Γ [] k := fun ⟨_, hi, _⟩ => by
  rcases hi with ⟨_, h⟩ | ⟨_, _, _, _, h, _⟩ | ⟨_, _, _, _, h⟩ | ⟨_, _, h⟩ <;> simp [get] at h
theorem law_calls {f : FuncId} {F : Func} {s : ChangeSpec} {shs : List (Bool × List Sh)} {tb : TypeId} (hl : laidOutB P = true) (hs : shAll P F.params.toList = some shs) (hv : s.vars = []) (hfn : ∀ ds : List (DataW H), ds.length = F.params.size → s.fn H ds = { results := [.lit (.bool true)], args := ds })
    (hr : F.resultTypes = #[tb]) (htb : P.underlying tb = some .bool) (hp : ∀ args, ArgOk shs args → PFD P f args (vbl true)) (W : World) (base : Nat) (args : Array Value) (ds gs : List (DataW H)) (before : List MemPlace)
    (hlw : LaidW W) (hval : ∀ (j : Nat) t v, F.params[j]? = some t → args[j]? = some v → Value.okWide P W .any base t v) (hW : DataW.Whole enc P F.params.toList s.vars false W args.toList ds gs before) :
    Calls P f args W fun e W' => ∃ v, e = .returned v ∧ s.post enc P F false true false false W args v W' := by
  have hW' := hW
  obtain ⟨p, q, hA, hV, rfl, hfz, hnd⟩ := hW
  rw [hv] at hV
  obtain ⟨rfl, rfl⟩ := trodVars_none hV
  let Γ : Cx := ⟨fun b => b < W.heap.size, fun _ => none, fun _ => none⟩
  obtain ⟨avs, h1, h2, h3⟩ := args_rep (Γ := Γ) rfl hs hA (fun j t v hj hj' => hval j t v (by simpa using hj) (by simpa using hj'))
  refine ((hp avs h1).h.2.2 Γ W args (storeOk_nil (fun k hk => hk) ⟨W, hlw, fun k hk => ⟨hk, rfl⟩⟩) (fun _ _ _ => rfl) ⟨by simpa using h2, fun i v u hv hu => h3 i v u hv (by simpa using hu)⟩).mono fun e W' hq => ?_
  obtain ⟨u, Γ', rfl, hu, _, _, _, hE⟩ := hq
  have hu : u = .bool true := by
    cases hu with
    | c _ _ h => cases (show RepD Γ'.I W' (.v (.bool true)) u from h); rfl
  subst hu
  have hb : Below W.heap.size W W' := ⟨hE.os, hE.tape, hE.output, hE.size, fun k hk => hE.keep k hk not_live_nil⟩
  have hlen : ds.length = F.params.size := by
    have : ∀ {ts : List TypeId} {vs : List Value} {ds : List (DataW H)} {p : List MemPlace}, DataW.TrodAll enc P W 0 (fun _ => true) true ts vs ds p → ds.length = ts.length := by
      intro ts
      induction ts with
      | nil => intro vs ds p h; obtain ⟨rfl, rfl, rfl⟩ := trodAll_nil h; rfl
      | cons t ts ih =>
        intro vs ds p h
        obtain ⟨v, vs1, d, ds1, a, b, rfl, rfl, rfl, h1, h2⟩ := trodAll_cons h
        simp [ih h2]
    simpa using this hA
  refine ⟨_, rfl, ds, [], p ++ [], [], p, [], hW', ?_, ?_, ?_, World.keptBut_mono (fun x hx => ⟨hx, .inr (.inl (by simpa using hx))⟩) (hb.frame _), fun h => by cases h⟩
  · rw [List.append_nil, hfn ds hlen, hr]
    exact trodAll_mk1 (shut_bool htb true)
  · rw [List.append_nil, hfn ds hlen]
    exact below_all hl hb hs hA
  · rw [List.append_nil, hfn ds hlen, hv]
    exact rfl
end
end Go.Pw
set_option linter.unusedVariables false
namespace Go.Pw
open Go Go.RowKit
theorem PFD.ri {P : Program} {f : FuncId} {args args' : List V} {v : V} (h : PFD P f args' v) (hr : RIs args args') : PFD P f args v :=
  ⟨h.h.1, h.h.2.1, fun Γ w us h1 h2 h3 => h.h.2.2 Γ w us h1 h2 (hr.rep h3)⟩
theorem okDs_cons {s : Sh} {ss : List Sh} {ds : List D} (h : OkDs (s :: ss) ds) : ∃ d es, ds = d :: es ∧ OkD s d ∧ OkDs ss es := by
  cases ds with
  | nil => unfold OkDs at h; exact h.elim
  | cons d es => unfold OkDs at h; exact ⟨d, es, rfl, h.1, h.2⟩
theorem okDs_nil {ds : List D} (h : OkDs [] ds) : ds = [] := by
  cases ds with
  | nil => rfl
  | cons d es => unfold OkDs at h; exact h.elim
theorem okD_int {k : IntKind} {d : D} (h : OkD (.int k) d) : ∃ n, d = .v (.int k n) ∧ k.has n = true := by unfold OkD at h; exact h
theorem okD_str {d : D} (h : OkD .str d) : ∃ s : ByteArray, d = .v (.string s) ∧ s.size ≤ maxLen := by unfold OkD at h; exact h
theorem okD_sl {row : List Sh} {d : D} (h : OkD (.sl row) d) : ∃ n f, d = .sl row.length n f ∧ n ≤ maxLen ∧ ∀ i, i < n → OkDs row (f i) := by unfold OkD at h; exact h
abbrev i64 (n : Int) : Prop := IntKind.i64.has n = true
theorem row1 {ds : List D} (h : OkDs [.int .i64] ds) : ∃ a : Int, ds = r1 a ∧ i64 a := by
  obtain ⟨d, es, rfl, h1, h2⟩ := okDs_cons h
  obtain ⟨n, rfl, hn⟩ := okD_int h1
  rw [okDs_nil h2]
  exact ⟨n, rfl, hn⟩
theorem row3 {ds : List D} (h : OkDs [.int .i64, .int .i64, .int .i64] ds) : ∃ a : Int × Int × Int, ds = r3 a ∧ i64 a.1 ∧ i64 a.2.1 ∧ i64 a.2.2 := by
  obtain ⟨d, es, rfl, h1, h2⟩ := okDs_cons h
  obtain ⟨e, fs, rfl, h3, h4⟩ := okDs_cons h2
  obtain ⟨g, gs, rfl, h5, h6⟩ := okDs_cons h4
  obtain ⟨n, rfl, hn⟩ := okD_int h1
  obtain ⟨m, rfl, hm⟩ := okD_int h3
  obtain ⟨o, rfl, ho⟩ := okD_int h5
  rw [okDs_nil h6]
  exact ⟨(n, m, o), rfl, hn, hm, ho⟩
abbrev Arg (b : Bool) (sh : List Sh) (v : V) : Prop := ∃ ds, OkDs sh ds ∧ (b = true ∧ v = .agg (ds.map .d) ∨ b = false ∧ ∃ d, ds = [d] ∧ v = .c (.d d))
theorem arg_agg {sh : List Sh} {v : V} (h : Arg true sh v) : ∃ ds, v = .agg (ds.map .d) ∧ OkDs sh ds := by
  obtain ⟨ds, h1, ⟨_, rfl⟩ | ⟨h2, _⟩⟩ := h
  · exact ⟨ds, rfl, h1⟩
  · cases h2
theorem arg_post {v : V} (h : Arg true [.int .i64, .int .i64, .int .i64, .int .i64, .int .i64] v) : ∃ (p b : Int × Int) (t : Int), v = .agg [int p.1, int p.2, int b.1, int b.2, int t] ∧ i64 p.1 ∧ i64 p.2 ∧ i64 b.1 ∧ i64 b.2 ∧ i64 t := by
  obtain ⟨ds, rfl, h1⟩ := arg_agg h
  obtain ⟨d1, e1, rfl, a1, k1⟩ := okDs_cons h1
  obtain ⟨d2, e2, rfl, a2, k2⟩ := okDs_cons k1
  obtain ⟨d3, e3, rfl, a3, k3⟩ := okDs_cons k2
  obtain ⟨d4, e4, rfl, a4, k4⟩ := okDs_cons k3
  obtain ⟨d5, e5, rfl, a5, k5⟩ := okDs_cons k4
  obtain ⟨n1, rfl, b1⟩ := okD_int a1
  obtain ⟨n2, rfl, b2⟩ := okD_int a2
  obtain ⟨n3, rfl, b3⟩ := okD_int a3
  obtain ⟨n4, rfl, b4⟩ := okD_int a4
  obtain ⟨n5, rfl, b5⟩ := okD_int a5
  rw [okDs_nil k5]
  exact ⟨(n1, n2), (n3, n4), n5, rfl, b1, b2, b3, b4, b5⟩
end Go.Pw
namespace Go.Pw
theorem Fork.yes {b : Bool} {p q : Prop} (hb : b = true) (hp : p) : Fork b p q := ⟨fun _ => hp, fun h => absurd (hb.symm.trans h) (by decide)⟩
theorem Fork.no {b : Bool} {p q : Prop} (hb : b = false) (hq : q) : Fork b p q := ⟨fun h => absurd (hb.symm.trans h) (by decide), fun _ => hq⟩
theorem nd_t {x : Prop} [Decidable x] (h : ¬ x) : (!decide x) = true := by rw [decide_eq_false h]; rfl
theorem nd_f {x : Prop} [Decidable x] (h : x) : (!decide x) = false := by rw [decide_eq_true h]; rfl
end Go.Pw
set_option linter.unusedVariables false
namespace Go.Pw
open Go Go.RowKit
theorem ob {p : Prop} (h : p := by first | trivial | omega | ((try simp only [R64, E53, true_and, and_true, Int.toNat_natCast, List.length_cons, List.length_nil]); omega)) : p := h
theorem tt1 {b : Bool} (h : b = true := by first | exact rfl | (refine decide_eq_true ?_; omega) | (refine nd_t ?_; omega) | (simp only [decide_true, Bool.and_self, Bool.not_false] <;> fail)) : b = true := h
theorem ff1 {b : Bool} (h : b = false := by first | exact rfl | (refine decide_eq_false ?_; omega) | (refine nd_f ?_; omega) | (simp only [decide_true, Bool.and_self, Bool.not_true] <;> fail)) : b = false := h
theorem Owe.o {p q : Prop} (r : q) (l : p := by exact ob) : Owe p q := ⟨l, r⟩
theorem Owe.same {p q : Prop} (h : Owe p q) : Owe p q := h
theorem fkD {x p q : Prop} [h : Decidable x] (h1 : x → p) (h2 : ¬ x → q) : Fork (decide x) p q := Fork.dec h1 h2
theorem fkN {x p q : Prop} [h : Decidable x] (h1 : ¬ x → p) (h2 : x → q) : Fork (!decide x) p q := Fork.ndec h1 h2
theorem fkM {b : Bool} {p q : Prop} (h1 : b = true → p) (h2 : b = false → q) : Fork b p q := ⟨h1, h2⟩
theorem fkY {b : Bool} {p q : Prop} (hp : p) (hb : b = true := by exact tt1) : Fork b p q := Fork.yes hb hp
theorem fkF {b : Bool} {p q : Prop} (hq : q) (hb : b = false := by exact ff1) : Fork b p q := Fork.no hb hq
inductive QI where
  | v (x y : V)
  | c (x y : C)
  | e (x y : Ent)
  | vs (xs ys : List V)
  | cs (xs ys : List C)
  | en (env e0 : List (Nat × V))
  | eq (π : Nat → Nat) (env e0 : List (Nat × V))
  | st (π : Nat → Nat) (σ σ0 : Store)
def cloCB : C → Bool
  | .d _ | .tru | .fls | .rp _ | .z | .fn _ [] | .fl _ | .cx _ _ | .cl _ _ _ | .fnR _ _ | .fnB _ _ => true
  | _ => false
def cloCsB : List C → Bool
  | [] => true
  | c :: cs => cloCB c && cloCsB cs
def cloB : V → Bool
  | .c x => cloCB x
  | .agg cs => cloCsB cs
  | .unk => true
  | .tup _ => false
theorem cloCB_ok {c : C} (h : cloCB c = true) : cloC c := by
  unfold cloCB at h
  split at h <;> first | trivial | rfl | cases h
theorem cloCsB_ok : ∀ {cs : List C}, cloCsB cs = true → cloCs cs
  | [], _ => trivial
  | c :: cs, h => by
    simp only [cloCsB, Bool.and_eq_true] at h
    exact ⟨cloCB_ok h.1, cloCsB_ok h.2⟩
theorem cloB_ok {v : V} (h : cloB v = true) : clo v := by
  cases v with
  | c x => exact cloCB_ok h
  | agg cs => exact cloCsB_ok h
  | unk => trivial
  | tup => cases h
def QI.so : QI → Prop
  | .v x y => VEq x y
  | .c x y => CEq x y
  | .e x y => EEq x y
  | .vs xs ys => VEqs xs ys
  | .cs xs ys => CEqs xs ys
  | .en env e0 => envIs env e0
  | .eq π env e0 => envEq π env e0
  | .st π σ σ0 => stoEq π σ σ0
inductive QQ : QI → Prop
  | vsn : QQ (.vs [] [])
  | vsc {x y : V} {xs ys : List V} (h : QI.so (.v x y)) (t : QI.so (.vs xs ys)) : QQ (.vs (x :: xs) (y :: ys))
  | csn : QQ (.cs [] [])
  | csc {x y : C} {xs ys : List C} (h : QI.so (.c x y)) (t : QI.so (.cs xs ys)) : QQ (.cs (x :: xs) (y :: ys))
  | enn {env : List (Nat × V)} : QQ (.en env [])
  | enc {env e0 : List (Nat × V)} {t : Nat} {v : V} (h : QI.so (.v (lk env t) v)) (c : cloB v = true) (r : QI.so (.en env e0)) : QQ (.en env ((t, v) :: e0))
  | eqn {π : Nat → Nat} {env : List (Nat × V)} : QQ (.eq π env [])
  | eqc {π : Nat → Nat} {env e0 : List (Nat × V)} {t : Nat} {v : V} (h : QI.so (.v (lk env t) (rnV π v))) (r : QI.so (.eq π env e0)) : QQ (.eq π env ((t, v) :: e0))
  | stn {π : Nat → Nat} {σ : Store} : QQ (.st π σ [])
  | stc {π : Nat → Nat} {σ σ0 : Store} {id : Nat} {x y : Ent} (g : get σ (π id) = some y) (h : QI.so (.e y (rnE π x))) (r : QI.so (.st π σ σ0)) : QQ (.st π σ ((id, x) :: σ0))
  | vr (x : V) : QQ (.v x x)
  | er (x : Ent) : QQ (.e x x)
  | cr (x : C) : QQ (.c x x)
  | tru {b : Bool} (h : b = true) : QQ (.v (.c .tru) (vbl b))
  | fls {b : Bool} (h : b = false) : QQ (.v (.c .fls) (vbl b))
  | bool {a b : Bool} (h : a = b) : QQ (.v (vbl a) (vbl b))
  | int {k : IntKind} {a b : Int} (h : a = b) : QQ (.v (vi k a) (vi k b))
  | nil {s : Nat} {g : Nat → List D} : QQ (.v (.c (.d (.v (.slice none 0 0)))) (.c (.d (.sl s 0 g))))
  | z {s : Nat} {g : Nat → List D} : QQ (.v (.c .z) (.c (.d (.sl s 0 g))))
  | li1 {a0 : Int} : QQ (.v (.c (.d (.sl 1 [[dI a0]].length fun i => [[dI a0]].getD i []))) (.c (ints [a0])))
  | li2 {a0 a1 : Int} : QQ (.v (.c (.d (.sl 1 [[dI a0], [dI a1]].length fun i => [[dI a0], [dI a1]].getD i []))) (.c (ints [a0, a1])))
  | li3 {a0 a1 a2 : Int} : QQ (.v (.c (.d (.sl 1 [[dI a0], [dI a1], [dI a2]].length fun i => [[dI a0], [dI a1], [dI a2]].getD i []))) (.c (ints [a0, a1, a2])))
  | li4 {a0 a1 a2 a3 : Int} : QQ (.v (.c (.d (.sl 1 [[dI a0], [dI a1], [dI a2], [dI a3]].length fun i => [[dI a0], [dI a1], [dI a2], [dI a3]].getD i []))) (.c (ints [a0, a1, a2, a3])))
  | lp1 {a0 b0 : Int} : QQ (.v (.c (.d (.sl 2 [[dI a0, dI b0]].length fun i => [[dI a0, dI b0]].getD i []))) (.c (prs [(a0, b0)])))
  | lp2 {a0 b0 a1 b1 : Int} : QQ (.v (.c (.d (.sl 2 [[dI a0, dI b0], [dI a1, dI b1]].length fun i => [[dI a0, dI b0], [dI a1, dI b1]].getD i []))) (.c (prs [(a0, b0), (a1, b1)])))
  | lp3 {a0 b0 a1 b1 a2 b2 : Int} : QQ (.v (.c (.d (.sl 2 [[dI a0, dI b0], [dI a1, dI b1], [dI a2, dI b2]].length fun i => [[dI a0, dI b0], [dI a1, dI b1], [dI a2, dI b2]].getD i []))) (.c (prs [(a0, b0), (a1, b1), (a2, b2)])))
  | lp4 {a0 b0 a1 b1 a2 b2 a3 b3 : Int} : QQ (.v (.c (.d (.sl 2 [[dI a0, dI b0], [dI a1, dI b1], [dI a2, dI b2], [dI a3, dI b3]].length fun i => [[dI a0, dI b0], [dI a1, dI b1], [dI a2, dI b2], [dI a3, dI b3]].getD i []))) (.c (prs [(a0, b0), (a1, b1), (a2, b2), (a3, b3)])))
  | lt1 {a0 b0 c0 : Int} : QQ (.v (.c (.d (.sl 3 [[dI a0, dI b0, dI c0]].length fun i => [[dI a0, dI b0, dI c0]].getD i []))) (.c (trs [(a0, b0, c0)])))
  | lt2 {a0 b0 c0 a1 b1 c1 : Int} : QQ (.v (.c (.d (.sl 3 [[dI a0, dI b0, dI c0], [dI a1, dI b1, dI c1]].length fun i => [[dI a0, dI b0, dI c0], [dI a1, dI b1, dI c1]].getD i []))) (.c (trs [(a0, b0, c0), (a1, b1, c1)])))
  | lt3 {a0 b0 c0 a1 b1 c1 a2 b2 c2 : Int} : QQ (.v (.c (.d (.sl 3 [[dI a0, dI b0, dI c0], [dI a1, dI b1, dI c1], [dI a2, dI b2, dI c2]].length fun i => [[dI a0, dI b0, dI c0], [dI a1, dI b1, dI c1], [dI a2, dI b2, dI c2]].getD i []))) (.c (trs [(a0, b0, c0), (a1, b1, c1), (a2, b2, c2)])))
  | ms {id n m : Nat} (h : n = m) : QQ (.v (.c (.ms id n)) (.c (.ms id m)))
  | sll {α : Type} {s : Nat} {row : α → List D} {d : α} {l m : List α} (h : l = m) : QQ (.v (.c (slv s row d l)) (.c (slv s row d m)))
  | aggs {xs ys : List C} (h : QI.so (.cs xs ys)) : QQ (.v (.agg xs) (.agg ys))
  | boxs {xs ys : List C} (h : QI.so (.cs xs ys)) : QQ (.e (.box xs) (.box ys))
  | app1 {e : TypeId} {l l' : List Int} {a : Int} (hl : l' = l ++ [a]) : QQ (.e (.row e 1 (l.length + 1) (fun i => if i < l.length then r1 (l.getD i 0) else ([[dI a]].getD (i - l.length) [])) false) (rowv e 1 r1 0 l'))
  | app2 {e : TypeId} {l l' : List (Int × Int)} {a b : Int} (hl : l' = l ++ [(a, b)]) : QQ (.e (.row e 2 (l.length + 1) (fun i => if i < l.length then r2 (l.getD i (0, 0)) else ([[dI a, dI b]].getD (i - l.length) [])) false) (rowv e 2 r2 (0, 0) l'))
  | app3 {e : TypeId} {l l' : List (Int × Int × Int)} {a b c : Int} (hl : l' = l ++ [(a, b, c)]) : QQ (.e (.row e 3 (l.length + 1) (fun i => if i < l.length then r3 (l.getD i (0, 0, 0)) else ([[dI a, dI b, dI c]].getD (i - l.length) [])) false) (rowv e 3 r3 (0, 0, 0) l'))
  | cms {id n m : Nat} (h : n = m) : QQ (.c (.ms id n) (.ms id m))
  | cint {k : IntKind} {a b : Int} (h : a = b) : QQ (.c (.d (.v (.int k a))) (.d (.v (.int k b))))
  | csll {α : Type} {s : Nat} {row : α → List D} {d : α} {l m : List α} (h : l = m) : QQ (.c (slv s row d l) (slv s row d m))
  | cnil {s : Nat} {g : Nat → List D} : QQ (.c (.d (.v (.slice none 0 0))) (.d (.sl s 0 g)))
  | cz {s : Nat} {g : Nat → List D} : QQ (.c .z (.d (.sl s 0 g)))
  | ctru {b : Bool} (h : b = true) : QQ (.c .tru (.d (.v (.bool b))))
  | cfls {b : Bool} (h : b = false) : QQ (.c .fls (.d (.v (.bool b))))
  | cbool {a b : Bool} (h : a = b) : QQ (.c (.d (.v (.bool a))) (.d (.v (.bool b))))
  | lit {α : Type} {s : Nat} {row : α → List D} {d : α} {l : List α} {rs : List (List D)} (h : rs = l.map row) : QQ (.v (.c (.d (.sl s rs.length fun i => rs.getD i []))) (.c (slv s row d l)))
  | clit {α : Type} {s : Nat} {row : α → List D} {d : α} {l : List α} {rs : List (List D)} (h : rs = l.map row) : QQ (.c (.d (.sl s rs.length fun i => rs.getD i [])) (slv s row d l))
  | fl {a b : Int} (h : a = b) : QQ (.v (.c (.fl a)) (.c (.fl b)))
  | cx {a b c d : Int} (h : a = c) (h2 : b = d) : QQ (.v (.c (.cx a b)) (.c (.cx c d)))
  | mp {m : Nat} {es es' : List (Int × Int)} (h : es = es') : QQ (.e (.mp m es) (.mp m es'))
  | drp {α : Type} {s k : Nat} {row : α → List D} {d : α} {l m : List α} (h : m = l.drop k) : QQ (.v (.c (.d (.sl s (l.length - k) fun i => row (l.getD (k + i) d)))) (.c (slv s row d m)))
  | tak {α : Type} {s k : Nat} {row : α → List D} {d : α} {l m : List α} (h : k ≤ l.length ∧ m = l.take k) : QQ (.v (.c (.d (.sl s k fun i => row (l.getD i d)))) (.c (slv s row d m)))
  | cut {α : Type} {s k j : Nat} {row : α → List D} {d : α} {l m : List α} (h : k ≤ j ∧ j ≤ l.length ∧ m = (l.take j).drop k) : QQ (.v (.c (.d (.sl s (j - k) fun i => row (l.getD (k + i) d)))) (.c (slv s row d m)))
  | dapp {α : Type} {s : Nat} {row : α → List D} {d : α} {l l' : List α} {r : List D} (h : ∃ x, r = row x ∧ l' = l ++ [x]) : QQ (.v (.c (.d (.sl s (l.length + 1) fun i => if i < l.length then row (l.getD i d) else ([r].getD (i - l.length) [])))) (.c (slv s row d l')))
  | appg {α : Type} {e : TypeId} {s : Nat} {row : α → List D} {d : α} {l l' : List α} {r : List D} (h : ∃ x, r = row x ∧ l' = l ++ [x]) : QQ (.e (.row e s (l.length + 1) (fun i => if i < l.length then row (l.getD i d) else ([r].getD (i - l.length) [])) false) (rowv e s row d l'))
  | apps {α : Type} {e : TypeId} {s : Nat} {row : α → List D} {d : α} {l m l' : List α} (h : l' = l ++ m) : QQ (.e (.row e s (l.length + m.length) (fun i => if i < l.length then row (l.getD i d) else row (m.getD (i - l.length) d)) false) (rowv e s row d l'))
  | setg {α : Type} {e : TypeId} {s i j : Nat} {row : α → List D} {d : α} {l l' : List α} {ds : List D} (h : ∃ x, putD (row (l.getD i d)) j ds = row x ∧ l' = l.set i x) : QQ (.e (.row e s l.length (setRw (fun k => row (l.getD k d)) i j ds) false) (rowv e s row d l'))
  | mk {α : Type} {e : TypeId} {s n : Nat} {row : α → List D} {d : α} {l : List α} {r : List D} (h : ∃ x, r = row x ∧ l = List.replicate n x) : QQ (.e (.row e s n (fun _ => r) false) (rowv e s row d l))
  | elit {α : Type} {e : TypeId} {s : Nat} {row : α → List D} {d : α} {l : List α} {rs : List (List D)} (h : rs = l.map row) : QQ (.e (.row e s rs.length (fun i => rs.getD i []) false) (rowv e s row d l))
  | rll {α : Type} {e : TypeId} {s : Nat} {row : α → List D} {d : α} {l m : List α} {b : Bool} (h : l = m) : QQ (.e (.row e s l.length (fun i => row (l.getD i d)) b) (.row e s m.length (fun i => row (m.getD i d)) b))
theorem setRw_eq {α : Type} {e : TypeId} {s : Nat} {row : α → List D} {d : α} {l l' : List α} {i j : Nat} {ds : List D} (x : α) (h : putD (row (l.getD i d)) j ds = row x) (hl : l' = l.set i x) : EEq (.row e s l.length (setRw (fun k => row (l.getD k d)) i j ds) false) (rowv e s row d l') := by
  subst hl
  refine EEq.rowl (by simp) fun k hk => ?_
  unfold Pw.setRw
  rw [List.getD_eq_getElem?_getD (l := l.set i x), List.getElem?_set]
  split
  · rename_i hb
    have hb := Nat.eq_of_beq_eq_true hb
    subst hb
    rw [h, if_pos rfl, if_pos hk]; rfl
  · rename_i hb
    have hb : ¬ i = k := fun h => by subst h; rw [Nat.beq_refl] at hb; cases hb
    rw [if_neg hb]; show row (l.getD k d) = _; rw [List.getD_eq_getElem?_getD]
theorem getD_drop' {α : Type} {d : α} {l : List α} {k i : Nat} : (l.drop k).getD i d = l.getD (k + i) d := by
  simp only [List.getD_eq_getElem?_getD, List.getElem?_drop]
theorem getD_take' {α : Type} {d : α} {l : List α} {k i : Nat} (h : i < k) : (l.take k).getD i d = l.getD i d := by
  simp only [List.getD_eq_getElem?_getD, List.getElem?_take, if_pos h]
theorem lit_eq {α : Type} {s : Nat} {row : α → List D} {d : α} {l : List α} {rs : List (List D)} (h : rs = l.map row) : CEq (.d (.sl s rs.length fun i => rs.getD i [])) (slv s row d l) := by
  subst h
  refine CEq.sl (by simp) fun i hi => ?_
  have hi : i < l.length := by simpa using hi
  rw [List.getD_eq_getElem?_getD, List.getD_eq_getElem?_getD, List.getElem?_map, List.getElem?_eq_getElem hi]
  rfl
theorem QQ.sound {q : QI} (h : QQ q) : q.so := by
  cases h with
  | vsn | csn | enn | eqn | stn => trivial
  | vsc h t => exact ⟨h, t⟩
  | csc h t => exact ⟨h, t⟩
  | enc h c r => exact ⟨⟨h, cloB_ok c⟩, r⟩
  | eqc h r => exact ⟨h, r⟩
  | stc g h r => exact ⟨by rw [g]; exact h, r⟩
  | vr x => exact VEq.refl x
  | er x => exact EEq.same x
  | cr x => exact CEq.refl x
  | tru h => exact VEq.tru h
  | fls h => exact VEq.fls h
  | bool h => exact VEq.bool h
  | int h => exact VEq.int h
  | nil => exact VEq.nil
  | z => exact .c _ _ (.z _ _)
  | li1 => exact VEq.li_1
  | li2 => exact VEq.li_2
  | li3 => exact VEq.li_3
  | li4 => exact VEq.li_4
  | lp1 => exact VEq.lp_1
  | lp2 => exact VEq.lp_2
  | lp3 => exact VEq.lp_3
  | lp4 => exact VEq.lp_4
  | lt1 => exact VEq.lt_1
  | lt2 => exact VEq.lt_2
  | lt3 => exact VEq.lt_3
  | ms h => exact VEq.ms h
  | sll h => exact VEq.sll h
  | aggs h => exact VEq.aggs h
  | boxs h => exact EEq.boxs h
  | app1 h => exact EEq.app1 h
  | app2 h => exact EEq.app2 h
  | app3 h => exact EEq.app3 h
  | cms h => exact CEq.ms h
  | cint h => exact CEq.int h
  | csll h => exact CEq.sll h
  | cnil => exact CEq.nil
  | cz => exact .z _ _
  | ctru h => subst h; exact .tru
  | cfls h => subst h; exact .fls
  | cbool h => subst h; exact .refl _
  | lit h => exact .c _ _ (lit_eq h)
  | clit h => exact lit_eq h
  | fl h => subst h; exact .refl _
  | cx h h2 => subst h; subst h2; exact .refl _
  | mp h => subst h; exact .mp _ _
  | drp h => subst h; exact .c _ _ (CEq.sl (by simp) fun i hi => by rw [getD_drop'])
  | tak h => obtain ⟨h1, rfl⟩ := h; exact .c _ _ (CEq.sl (by simp; omega) fun i hi => by rw [getD_take' hi])
  | cut h => obtain ⟨h1, h2, rfl⟩ := h; exact .c _ _ (CEq.sl (by simp; omega) fun i hi => by rw [getD_drop', getD_take' (by omega)])
  | dapp h => obtain ⟨x, h1, rfl⟩ := h; exact .c _ _ (CEq.sl (by simp) fun i hi => row_app h1 i hi)
  | appg h => obtain ⟨x, h1, h2⟩ := h; exact EEq.app x h1 h2
  | apps h =>
    subst h
    refine EEq.rowl (by simp) fun i hi => ?_
    split
    · rename_i hlt; rw [List.getD_eq_getElem?_getD, List.getD_eq_getElem?_getD, List.getElem?_append_left hlt]
    · rename_i hlt; rw [List.getD_eq_getElem?_getD, List.getD_eq_getElem?_getD, List.getElem?_append_right (by omega)]
  | setg h => obtain ⟨x, h1, h2⟩ := h; exact setRw_eq x h1 h2
  | mk h =>
    obtain ⟨x, rfl, rfl⟩ := h
    refine EEq.rowl (by simp) fun i hi => ?_
    rw [List.getD_eq_getElem?_getD, List.getElem?_replicate, if_pos hi]; rfl
  | elit h =>
    subst h
    refine EEq.rowl (by simp) fun i hi => ?_
    rw [List.length_map] at hi
    rw [List.getD_eq_getElem?_getD, List.getD_eq_getElem?_getD, List.getElem?_map, List.getElem?_eq_getElem hi]
    rfl
  | rll h => subst h; exact EEq.same _
theorem qS {q : QI} (h : QQ q) : q.so := h.sound
theorem qv {x y : V} (h : QI.so (.v x y)) : VEq x y := h
theorem qc {x y : C} (h : QI.so (.c x y)) : CEq x y := h
theorem qe {x y : Ent} (h : QI.so (.e x y)) : EEq x y := h
theorem qvs {x y : List V} (h : QI.so (.vs x y)) : VEqs x y := h
theorem qcs {x y : List C} (h : QI.so (.cs x y)) : CEqs x y := h
theorem qen {x y : List (Nat × V)} (h : QI.so (.en x y)) : envIs x y := h
theorem qeq {π : Nat → Nat} {x y : List (Nat × V)} (h : QI.so (.eq π x y)) : envEq π x y := h
theorem qst {π : Nat → Nat} {x y : Store} (h : QI.so (.st π x y)) : stoEq π x y := h
theorem qis {base : Nat} {st st0 : St} {l : List Nat} (h : QI.so (.eq (nmAt base l) st.env st0.env)) (h2 : QI.so (.st (nmAt base l) st.σ st0.σ)) (nm : (nmOk base st0.nx l && envLtB st0.nx st0.env && stoLtB st0.nx st0.σ) = true := by exact rfl) : Is base st st0 l := ⟨nm, h, h2⟩
section
variable {P : Program} [m : Mix P] {N base : Nat}
theorem rqK {nx nx' : Nat} {rl : List RL} {vs vs0 : List V} {e : Exit} {st : St} (hres : resAll st.env st.σ rl = some vs0) (hv : QI.so (.vs vs0 vs)) (he : e = .normal ∨ e = .ret := by first | exact .inr rfl | exact .inl rfl) (hle : nx ≤ nx' := by exact Nat.le_refl _) (hc : cloL vs := by simp only [cloL, clo, cloC, cloCs, and_self]) : RetQ nx rl vs [] nx' e st :=
  RetQ.plain hle he hres hc hv
theorem rqF {nx nx' : Nat} {rl : List RL} {vs vs0 : List V} {e : Exit} {env : List (Nat × V)} {σ : Store} {nx1 : Nat} (t : Nat) (id : Nat) {n : Nat} {ty : TypeId} {s m : Nat} {f : Nat → List D} {fz : Bool} (hres : resAll env σ rl = some vs0) (h : lk (argEnv 0 vs0) t = .c (.ms id n)) (hg : get σ id = some (.row ty s m f fz))
    (hv : QI.so (.en ((t, .c (.d (.sl s n f))) :: argEnv 0 vs0) (argEnv 0 vs))) (hl : Nat.beq vs0.length vs.length = true := by exact rfl) (hle : Nat.ble nx nx' = true := by exact rfl) (hn : n ≤ m := by exact Nat.le_refl _) (he : e = .normal ∨ e = .ret := by first | exact .inr rfl | exact .inl rfl) : RetQ nx rl vs [] nx' e ⟨env, σ, nx1⟩ :=
  RetQ.of he hres hl ((Mv.freeze t id h hg hn).trans (Mv.plain hle hv))
theorem pi1 {f : FuncId} {lc : LCode} {rl : List RL} {args : List V} {v : V} (hf : FnOk P f N lc rl) (h : wp P N 0 lc ⟨argEnv 0 args, [], 0⟩ (RetQ 0 rl [v] [] 0)) (hN : Nat.ble args.length N = true := by exact rfl) (hc : cloL args := by simp only [cloL, clo, cloC, cloCs, and_self]) : PFD P f args v := PFD.of (vs := [v]) hf hN hc h
theorem pi2 {f : FuncId} {lc : LCode} {rl : List RL} {args : List V} {v v2 : V} (hf : FnOk P f N lc rl) (h : wp P N 0 lc ⟨argEnv 0 args, [], 0⟩ (RetQ 0 rl [v, v2] [] 0)) (hN : Nat.ble args.length N = true := by exact rfl) (hc : cloL args := by simp only [cloL, clo, cloC, cloCs, and_self]) : PFD P f args (.tup [v, v2]) := PFD.of (vs := [v, v2]) hf hN hc h
theorem pi3 {f : FuncId} {lc : LCode} {rl : List RL} {args : List V} {v v2 v3 : V} (hf : FnOk P f N lc rl) (h : wp P N 0 lc ⟨argEnv 0 args, [], 0⟩ (RetQ 0 rl [v, v2, v3] [] 0)) (hN : Nat.ble args.length N = true := by exact rfl) (hc : cloL args := by simp only [cloL, clo, cloC, cloCs, and_self]) : PFD P f args (.tup [v, v2, v3]) := PFD.of (vs := [v, v2, v3]) hf hN hc h
theorem fits {env : List (Nat × V)} {xs : List Operand} {args : List V} (h : Fits env xs args := by first | exact Fits.eq rfl | exact Fits.veq (qvs (by (repeat' first | exact rfl | (refine qS ?_; constructor)) <;> fail))) : Fits env xs args := h
variable {dst : Option Nat} {fop : Operand} {xs : List Operand} {g : Option (Nat × Bool)} {rest : List LIns} {env : List (Nat × V)} {σ : Store} {nx : Nat} {K : St → Prop} {f : FuncId} {args : List V} {v : V} {p : Prop} {M : List Nat} {acc : List (Bool × List Nat)}
theorem A1.oK (hc : PFD P f args v) (hf : evo env fop = .c (.fn f [])) (hg : guardOf env g = .run) (ha : (xs.map (evo env)).map normA = args) (h : putK dst v env fun env' => wpOps P N base rest env' σ nx none K) : OpsL P N base (⟨dst, .call fop xs, g⟩ :: rest) ⟨env, σ, nx⟩ K := Ops.pc hf (Fits.eq ha) hc hg h
theorem A2.oK (hc : p → PFD P f args v) (hf : evo env fop = .c (.fn f [])) (hg : guardOf env g = .run) (ha : (xs.map (evo env)).map normA = args) (h : putK dst v env fun env' => wpOps P N base rest env' σ nx none K) (hp : p := by exact ob) : OpsL P N base (⟨dst, .call fop xs, g⟩ :: rest) ⟨env, σ, nx⟩ K := Ops.pc hf (Fits.eq ha) (hc hp) hg h
theorem A3.oK (hc : PFD P f args v) (hf : evo env fop = .c (.fn f [])) (hg : guardOf env g = .run) (ha : (xs.map (evo env)).map normA = args) (h : putK dst v env fun env' => wpD P N base M rest env' σ nx none ((false, []) :: acc) K) : OpsDL P N base M (⟨dst, .call fop xs, g⟩ :: rest) ⟨env, σ, nx⟩ acc K := OpsD.pc hf (Fits.eq ha) hc hg h
theorem A4.oK (hc : p → PFD P f args v) (hf : evo env fop = .c (.fn f [])) (hg : guardOf env g = .run) (ha : (xs.map (evo env)).map normA = args) (h : putK dst v env fun env' => wpD P N base M rest env' σ nx none ((false, []) :: acc) K) (hp : p := by exact ob) : OpsDL P N base M (⟨dst, .call fop xs, g⟩ :: rest) ⟨env, σ, nx⟩ acc K := OpsD.pc hf (Fits.eq ha) (hc hp) hg h
theorem A1.pK (hc : PFD P f args v) (hf : evo env fop = .c (.fn f [])) (hg : guardOf env g = .run) (h : putK dst v env fun env' => wpOps P N base rest env' σ nx none K) (ha : Fits env xs args := by exact fits) : OpsL P N base (⟨dst, .call fop xs, g⟩ :: rest) ⟨env, σ, nx⟩ K := Ops.pc hf ha hc hg h
theorem A2.pK (hc : p → PFD P f args v) (hf : evo env fop = .c (.fn f [])) (hg : guardOf env g = .run) (h : putK dst v env fun env' => wpOps P N base rest env' σ nx none K) (ha : Fits env xs args := by exact fits) (hp : p := by exact ob) : OpsL P N base (⟨dst, .call fop xs, g⟩ :: rest) ⟨env, σ, nx⟩ K := Ops.pc hf ha (hc hp) hg h
theorem A3.pK (hc : PFD P f args v) (hf : evo env fop = .c (.fn f [])) (hg : guardOf env g = .run) (h : putK dst v env fun env' => wpD P N base M rest env' σ nx none ((false, []) :: acc) K) (ha : Fits env xs args := by exact fits) : OpsDL P N base M (⟨dst, .call fop xs, g⟩ :: rest) ⟨env, σ, nx⟩ acc K := OpsD.pc hf ha hc hg h
theorem A4.pK (hc : p → PFD P f args v) (hf : evo env fop = .c (.fn f [])) (hg : guardOf env g = .run) (h : putK dst v env fun env' => wpD P N base M rest env' σ nx none ((false, []) :: acc) K) (ha : Fits env xs args := by exact fits) (hp : p := by exact ob) : OpsDL P N base M (⟨dst, .call fop xs, g⟩ :: rest) ⟨env, σ, nx⟩ acc K := OpsD.pc hf ha (hc hp) hg h
variable {rows : List (List D)}
theorem RIs.rfl' : ∀ (R : List V), RIs R R
  | [] => .nil
  | _ :: R => .cons (RI.refl _) (RIs.rfl' R)
theorem ris0 {X Y : List V} (h : X.map normA = Y) : RIs X Y := h ▸ ris_norm _
theorem ris1 {x y : V} {R : List V} (h : QI.so (.v x y)) : RIs (x :: R) (y :: R) := .cons (VEq.ri (qv h)) (RIs.rfl' R)
theorem ris2 {x y x2 y2 : V} {R : List V} (h : QI.so (.v x y)) (h2 : QI.so (.v x2 y2)) : RIs (x :: x2 :: R) (y :: y2 :: R) := .cons (VEq.ri (qv h)) (.cons (VEq.ri (qv h2)) (RIs.rfl' R))
theorem fitsR {X args : List V} (h : RIs X args := by first | exact ris0 rfl | (refine ris1 ?_; (repeat' first | exact rfl | (refine qS ?_; constructor)); done) | (refine ris2 ?_ ?_; (repeat' first | exact rfl | (refine qS ?_; constructor)); done) | (refine VEqs.ris (qvs ?_); (repeat' first | exact rfl | (refine qS ?_; constructor)); done)) : RIs X args := h
theorem A1.pR (hc : PFD P f args v) (hf : evo env fop = .c (.fnR f rows)) (hg : guardOf env g = .run) (h : putK dst v env fun env' => wpOps P N base rest env' σ nx none K) (ha : RIs (xs.map (evo env) ++ rows.map fun r => V.c (.rp r)) args := by exact fitsR) : OpsL P N base (⟨dst, .call fop xs, g⟩ :: rest) ⟨env, σ, nx⟩ K := Ops.pcR hf ha hc hg h
theorem A2.pR (hc : p → PFD P f args v) (hf : evo env fop = .c (.fnR f rows)) (hg : guardOf env g = .run) (h : putK dst v env fun env' => wpOps P N base rest env' σ nx none K) (ha : RIs (xs.map (evo env) ++ rows.map fun r => V.c (.rp r)) args := by exact fitsR) (hp : p := by exact ob) : OpsL P N base (⟨dst, .call fop xs, g⟩ :: rest) ⟨env, σ, nx⟩ K := Ops.pcR hf ha (hc hp) hg h
theorem A3.pR (hc : PFD P f args v) (hf : evo env fop = .c (.fnR f rows)) (hg : guardOf env g = .run) (h : putK dst v env fun env' => wpD P N base M rest env' σ nx none ((false, []) :: acc) K) (ha : RIs (xs.map (evo env) ++ rows.map fun r => V.c (.rp r)) args := by exact fitsR) : OpsDL P N base M (⟨dst, .call fop xs, g⟩ :: rest) ⟨env, σ, nx⟩ acc K := OpsD.pcR hf ha hc hg h
theorem A4.pR (hc : p → PFD P f args v) (hf : evo env fop = .c (.fnR f rows)) (hg : guardOf env g = .run) (h : putK dst v env fun env' => wpD P N base M rest env' σ nx none ((false, []) :: acc) K) (ha : RIs (xs.map (evo env) ++ rows.map fun r => V.c (.rp r)) args := by exact fitsR) (hp : p := by exact ob) : OpsDL P N base M (⟨dst, .call fop xs, g⟩ :: rest) ⟨env, σ, nx⟩ acc K := OpsD.pcR hf ha (hc hp) hg h
variable {ds : List D}
end
theorem liveId_setE {Γ : Cx} {σ : Store} {id : Nat} {x y : Ent} (hg : get σ id = some x) (h : EEq x y) (j : Nat) : LiveId Γ (set σ id y) j ↔ LiveId Γ σ j := by
  rw [liveId_iff, liveId_iff]
  by_cases hj : j = id
  · subst hj
    rw [get_set_same hg]
    constructor
    · rintro ⟨e, he, hl⟩; cases he; exact ⟨x, hg, h.live.1 hl⟩
    · rintro ⟨e, he, hl⟩; rw [hg] at he; cases he; exact ⟨y, rfl, h.live.2 hl⟩
  · rw [get_set_other hj]
theorem StoreOk.setE {Γ : Cx} {w : World} {σ : Store} {id : Nat} {x y : Ent} (hs : StoreOk Γ w σ) (hg : get σ id = some x) (h : EEq x y) : StoreOk Γ w (set σ id y) where
  im := hs.im
  ok := fun j e he => by
    by_cases hj : j = id
    · subst hj
      rw [get_set_same hg] at he; cases he
      obtain ⟨b, hb, hok⟩ := hs.ok j x hg
      exact ⟨b, hb, h.ent hok⟩
    · rw [get_set_other hj] at he; exact hs.ok j e he
  inj := fun i j k hi hj => hs.inj i j k ((liveId_setE hg h i).1 hi) ((liveId_setE hg h j).1 hj)
  lay := hs.lay
theorem Mv.ent {base : Nat} {env : List (Nat × V)} {σ : Store} {nx id : Nat} {x y : Ent} (hg : get σ id = some x) (h : EEq x y) : Mv base ⟨env, σ, nx⟩ ⟨env, set σ id y, nx⟩ := fun N B0 Γ w a hc => by
  have hl : ∀ k, Live Γ (set σ id y) k ↔ Live Γ σ k := fun k => ⟨fun ⟨i, hi, hk⟩ => ⟨i, (liveId_setE hg h i).1 hi, hk⟩, fun ⟨i, hi, hk⟩ => ⟨i, (liveId_setE hg h i).2 hi, hk⟩⟩
  refine ⟨Γ, ⟨hc.size, hc.env, hc.ok.setE hg h, hc.free, hc.le, ?_⟩, ⟨rfl, rfl, rfl, Nat.le_refl _, fun _ h => h, fun _ h => .inl h, fun _ _ => rfl, fun _ _ => rfl, fun _ _ _ => rfl, fun k hk => .inl ((hl k).1 hk)⟩⟩
  obtain ⟨Ds, d1, d2, d3⟩ := hc.dfs
  refine ⟨Ds, d1, d2, fun D hD => ?_⟩
  obtain ⟨d4, d5, d6, d7⟩ := d3 D hD
  exact ⟨d4, d5, fun hlv => d6 ((hl D).1 hlv), d7⟩
section
variable {P : Program} {N base : Nat} {env : List (Nat × V)} {σ : Store} {nx : Nat} {x y : Ent}
theorem OpsL.ent {ops : List LIns} {K : St → Prop} (id : Nat) (hg : get σ id = some x) (h : EEq x y) (k : frS (set σ id y) fun σ' => OpsL P N base ops ⟨env, σ', nx⟩ K) : OpsL P N base ops ⟨env, σ, nx⟩ K := by
  rw [frS_eq] at k
  exact ⟨Ops.from (Mv.ent hg h) k.h⟩
theorem OpsL.go {ops : List LIns} {K : St → Prop} (h : wpOps P N base ops env σ nx none K) : OpsL P N base ops ⟨env, σ, nx⟩ K := ⟨Ops.wp h⟩
theorem SatL.ent {c : LCode} {Q : Exit → St → Prop} (id : Nat) (hg : get σ id = some x) (h : EEq x y) (k : frS (set σ id y) fun σ' => SatL P N base c ⟨env, σ', nx⟩ Q) : SatL P N base c ⟨env, σ, nx⟩ Q := by
  rw [frS_eq] at k
  exact ⟨Sat.from (Mv.ent hg h) k.h⟩
theorem MvQ.ent {e : Exit} {Q : Exit → St → Prop} (id : Nat) (hg : get σ id = some x) (h : EEq x y) (k : frS (set σ id y) fun σ' => MvQ base Q e ⟨env, σ', nx⟩) : MvQ base Q e ⟨env, σ, nx⟩ := by
  rw [frS_eq] at k
  exact MvQ.from (Mv.ent hg h) k
def toDL : List C → Option (List D)
  | [] => some []
  | c :: cs => match toD c, toDL cs with
    | some d, some ds => some (d :: ds)
    | _, _ => none
theorem toDL_get : ∀ {cs : List C} {ds : List D}, toDL cs = some ds → ds.length = cs.length ∧ ∀ (i : Nat) c d, cs[i]? = some c → ds[i]? = some d → toD c = some d
  | [], ds, h => by simp only [toDL, Option.some.injEq] at h; subst h; exact ⟨rfl, fun i c d h => by simp at h⟩
  | c :: cs, ds, h => by
    simp only [toDL] at h
    split at h
    · rename_i d l h1 h2
      cases h
      obtain ⟨h3, h4⟩ := toDL_get h2
      refine ⟨by simp [h3], fun i c' d' hc hd => ?_⟩
      cases i with
      | zero => simp at hc hd; subst hc; subst hd; exact h1
      | succ i => exact h4 i c' d' (by simpa using hc) (by simpa using hd)
    · cases h
theorem live_delE {Γ : Cx} {σ : Store} {id k : Nat} (h : Live Γ (del σ id) k) : Live Γ σ k := live_del h
theorem Conc.freezeB {B0 : Nat} {Γ : Cx} {w : World} {a : Act} {id : Nat} {cs : List C} {ds : List D} (hc : Conc N B0 base Γ w ⟨env, σ, nx⟩ a) (hg : get σ id = some (.box cs)) (hd : toDL cs = some ds) :
    ∃ Γ' b, Γ.ρ id = some b ∧ Γ' = Γ.also (fun k => k = b) ∧ Conc N B0 base Γ' w ⟨env, del σ id, nx⟩ a ∧ Ext base Γ w σ Γ' w (del σ id) ∧ ∀ off, RepP Γ'.I w (ds.drop off) (ptr b off) := by
  obtain ⟨b, hb, hnI, xs, t, hh, hsz, hcs⟩ := hc.ok.ok id _ hg
  have hli : LiveId Γ σ id := .inl ⟨cs, hg⟩
  have hle : CxLe Γ (Γ.also fun k => k = b) := CxLe.also _ _
  have hd1 := hc.ok.del id
  have hne : ∀ j, LiveId Γ (del σ id) j → Γ.ρ j ≠ some b := fun j hl hjb => by
    obtain ⟨hj, hl'⟩ := liveId_del hl
    exact hj (hc.ok.inj j id b hl' hli hjb hb)
  have hlt : b < w.heap.size := (Array.getElem?_eq_some_iff.1 hh).1
  have h1 : StoreOk (Γ.also fun k => k = b) w (del σ id) := hd1.keep hle (fun k hI => by
    rcases hI with hI | rfl
    · exact hc.ok.im k hI
    · exact hlt) (fun _ _ => rfl) (fun _ _ => rfl) (fun k hl hI => by
    rcases hI with hI | rfl
    · exact hd1.not_live hI hl
    · obtain ⟨j, hj, hjb⟩ := hl
      exact hne j hj hjb)
  have hlv : ∀ k, Live (Γ.also fun k => k = b) (del σ id) k → Live Γ σ k := fun k hk => live_delE (live_also.1 hk)
  have hext : Ext base Γ w σ (Γ.also fun k => k = b) w (del σ id) :=
    ⟨rfl, rfl, rfl, Nat.le_refl _, fun k hk => .inl hk, fun k hk => by
      rcases hk with hk | rfl
      · exact .inl hk
      · exact .inr (.inr ⟨id, hli, hb⟩), fun _ _ => rfl, fun _ _ => rfl, fun _ _ _ => rfl, fun k hk => .inl (hlv k hk)⟩
  refine ⟨_, b, hb, rfl, ⟨hc.size, fun t => (hc.env t).mono hle (fun _ _ => rfl), h1, hc.free, hc.le, ?_⟩, hext, fun off => ⟨_, rfl, .inr rfl, fun j d hj => ?_⟩⟩
  · obtain ⟨Ds, d1, d2, d3⟩ := hc.dfs
    refine ⟨Ds, d1, d2, fun D hD => ?_⟩
    obtain ⟨d4, d5, d6, d7⟩ := d3 D hD
    refine ⟨d4, fun hI => ?_, fun hl => d6 (hlv D hl), d7⟩
    rcases hI with h3 | rfl
    · exact d5 h3
    · exact d6 ⟨id, hli, hb⟩
  · rw [List.getElem?_drop] at hj
    obtain ⟨e1, e2⟩ := toDL_get hd
    have hjl : off + j < cs.length := by rw [← e1]; exact (List.getElem?_eq_some_iff.1 hj).1
    obtain ⟨x, hx, hr⟩ := hcs (off + j) cs[off + j] (List.getElem?_eq_getElem hjl)
    refine ⟨x, by rw [cell_at hh]; exact hx, ?_⟩
    exact (toD_rep (e2 (off + j) cs[off + j] d (List.getElem?_eq_getElem hjl) hj) hr).mono (fun _ h => .inl h) (fun _ _ => rfl)
def frzE (env : List (Nat × V)) (id : Nat) (ds : List D) : List Nat → List (Nat × V)
  | [] => env
  | t :: ts => match lk env t with
    | .c (.bp i off) => match Nat.beq i id with
      | true => (t, .c (.rp (ds.drop off))) :: frzE env id ds ts
      | false => frzE env id ds ts
    | _ => frzE env id ds ts
def frzK (env : List (Nat × V)) (id : Nat) (ds : List D) : List Nat → (List (Nat × V) → Prop) → Prop
  | [], k => k env
  | t :: ts, k => match lk env t with
    | .c (.bp i off) => match Nat.beq i id with
      | true => frzK env id ds ts fun e => k ((t, .c (.rp (ds.drop off))) :: e)
      | false => frzK env id ds ts k
    | _ => frzK env id ds ts k
theorem frzK_eq {id : Nat} {ds : List D} : ∀ (ts : List Nat) (k : List (Nat × V) → Prop), frzK env id ds ts k = k (frzE env id ds ts)
  | [], k => rfl
  | t :: ts, k => by
    simp only [frzK, frzE]
    split
    · split
      · rw [frzK_eq ts]
      · exact frzK_eq ts k
    · exact frzK_eq ts k
theorem Mv.freezeB (id : Nat) {cs : List C} {ds : List D} (ts : List Nat) (hg : get σ id = some (.box cs)) (hd : toDL cs = some ds) : Mv base ⟨env, σ, nx⟩ ⟨frzE env id ds ts, del σ id, nx⟩ := fun N B0 Γ w a hc => by
  obtain ⟨Γ', b, hb, rfl, h1, h2, h3⟩ := hc.freezeB hg hd
  refine ⟨_, ⟨h1.size, fun t' => ?_, h1.ok, h1.free, h1.le, h1.dfs⟩, h2⟩
  have key : ∀ ts, RepV (Γ.also fun k => k = b) w (lk (frzE env id ds ts) t') (a.tmps.getD t' undef) := by
    intro ts
    induction ts with
    | nil => exact h1.env t'
    | cons t ts ih =>
      simp only [frzE]
      split
      · rename_i i off hlk
        split
        · rename_i hi
          have hi := Nat.eq_of_beq_eq_true hi
          subst hi
          rw [lk_cons]
          split
          · rename_i ht
            subst ht
            have := hc.env t
            simp only at this
            rw [hlk] at this
            generalize a.tmps.getD t undef = u at this ⊢
            cases this with | c _ _ hr =>
            obtain ⟨b', hb', rfl⟩ := hr
            rw [hb] at hb'; cases hb'
            exact .c _ _ (h3 off)
          · exact ih
        · exact ih
      · exact ih
  exact key ts
theorem SatL.frB {c : LCode} {Q : Exit → St → Prop} (id : Nat) {cs : List C} {ds : List D} (ts : List Nat) (hg : get σ id = some (.box cs)) (hd : toDL cs = some ds) (k : frzK env id ds ts fun env' => frS (del σ id) fun σ' => SatL P N base c ⟨env', σ', nx⟩ Q) : SatL P N base c ⟨env, σ, nx⟩ Q := by
  rw [frzK_eq, frS_eq] at k
  exact ⟨Sat.from (Mv.freezeB id ts hg hd) k.h⟩
theorem OpsL.frB {ops : List LIns} {K : St → Prop} (id : Nat) {cs : List C} {ds : List D} (ts : List Nat) (hg : get σ id = some (.box cs)) (hd : toDL cs = some ds) (k : frzK env id ds ts fun env' => frS (del σ id) fun σ' => OpsL P N base ops ⟨env', σ', nx⟩ K) : OpsL P N base ops ⟨env, σ, nx⟩ K := by
  rw [frzK_eq, frS_eq] at k
  exact ⟨Ops.from (Mv.freezeB id ts hg hd) k.h⟩
theorem SatL.as {c : LCode} {Q : Exit → St → Prop} (t : Nat) (v : V) (h : VEq (lk env t) v) (k : SatL P N base c ⟨(t, v) :: env, σ, nx⟩ Q) : SatL P N base c ⟨env, σ, nx⟩ Q :=
  ⟨Sat.from (Mv.env fun t' => by
    rw [lk_cons]
    split
    · rename_i ht; subst ht; exact h.ri
    · exact RI.refl _) k.h⟩
theorem OpsL.as {ops : List LIns} {K : St → Prop} (t : Nat) (v : V) (h : VEq (lk env t) v) (k : OpsL P N base ops ⟨(t, v) :: env, σ, nx⟩ K) : OpsL P N base ops ⟨env, σ, nx⟩ K :=
  ⟨Ops.from (Mv.env fun t' => by
    rw [lk_cons]
    split
    · rename_i ht; subst ht; exact h.ri
    · exact RI.refl _) k.h⟩
theorem VEq.cut {α : Type} {s k j : Nat} {row : α → List D} {d : α} {l m : List α} (h1 : k ≤ j) (h2 : j ≤ l.length) (h : m = (l.take j).drop k) : VEq (.c (.d (.sl s (j - k) fun i => row (l.getD (k + i) d)))) (.c (slv s row d m)) := QQ.sound (.cut ⟨h1, h2, h⟩)
theorem SatL.frz {c : LCode} {Q : Exit → St → Prop} (t id : Nat) {n : Nat} {e : TypeId} {s m : Nat} {f : Nat → List D} {fz : Bool} (h : lk env t = .c (.ms id n)) (hg : get σ id = some (.row e s m f fz)) (hn : n ≤ m)
    (k : frS (set σ id (.row e s m f true)) fun σ' => SatL P N base c ⟨(t, .c (.d (.sl s n f))) :: env, σ', nx⟩ Q) : SatL P N base c ⟨env, σ, nx⟩ Q := by
  rw [frS_eq] at k
  exact ⟨Sat.from (Mv.freeze t id h hg hn) k.h⟩
end
theorem Mv.freezeX {base : Nat} {env : List (Nat × V)} {σ : Store} {nx : Nat} (idb j id : Nat) {cs : List C} {n : Nat} {e : TypeId} {s m : Nat} {f : Nat → List D} {fz : Bool} (hbx : get σ idb = some (.box cs)) (hj : cs[j]? = some (.ms id n)) (hg : get σ id = some (.row e s m f fz)) (hn : n ≤ m) :
    Mv base ⟨env, σ, nx⟩ ⟨env, set (set σ id (.row e s m f true)) idb (.box (putAt cs j (.d (.sl s n f)))), nx⟩ := fun N B0 Γ w a hc => by
  have hne : idb ≠ id := fun h => by subst h; rw [hbx] at hg; cases hg
  obtain ⟨Γ', b, hb, rfl, h1, h2⟩ := hc.freeze hg
  have hg' : get (set σ id (.row e s m f true)) idb = some (.box cs) := by rw [get_set_other hne]; exact hbx
  obtain ⟨b2, hb2, hok2⟩ := h1.ok.ok idb _ hg'
  obtain ⟨hI, xs, t, hh, hl, hr⟩ := hok2
  obtain ⟨b3, hb3, hok3⟩ := hc.ok.ok idb _ hbx
  have : b3 = b2 := by
    have e : Γ.ρ idb = some b2 := hb2
    rw [hb3] at e; cases e; rfl
  subst this
  obtain ⟨_, xs', t', hh', _, hr'⟩ := hok3
  rw [hh] at hh'; cases hh'
  have h3 := h1.ok.modify (w' := w) (e' := .box (putAt cs j (.d (.sl s n f)))) hg' hb2 trivial (Nat.le_refl _) (fun _ _ _ => rfl) ⟨hI, xs, t, hh, by rw [hl, putAt_length], fun i c hc' => by
    rw [putAt_get] at hc'
    split at hc'
    · rename_i hi
      cases hc'
      obtain ⟨rfl, hi⟩ := hi
      obtain ⟨x, hx, hrx⟩ := hr' i _ hj
      obtain ⟨b', hb', hd⟩ := ms_data hc.ok hg hn hrx
      rw [hb] at hb'; cases hb'
      exact ⟨x, hx, hd _ (fun k hk => .inl hk) (fun hcc => .inr ⟨rfl, hcc⟩)⟩
    · exact hr i c hc'⟩
  have hext : Ext base Γ w σ (Γ.also fun k => k = b ∧ ∃ c, Γ.κ id = some c) w (set (set σ id (.row e s m f true)) idb (.box (putAt cs j (.d (.sl s n f))))) :=
    ⟨h2.os, h2.tape, h2.output, h2.size, h2.im, h2.new, h2.ρ, h2.κ, h2.keep, fun k hk => h2.live k (live_set hg' trivial hk)⟩
  refine ⟨_, ⟨h1.size, h1.env, h3, h1.free, h1.le, ?_⟩, hext⟩
  obtain ⟨Ds, d1, d2, d3⟩ := h1.dfs
  refine ⟨Ds, d1, d2, fun D hD => ?_⟩
  obtain ⟨d4, d5, d6, d7⟩ := d3 D hD
  exact ⟨d4, d5, fun hlv => d6 (live_set hg' trivial hlv), d7⟩
section
variable {P : Program} {N base : Nat}
theorem MvQ.frzX {Q : Exit → St → Prop} {x : Exit} {env : List (Nat × V)} {σ : Store} {nx : Nat} (idb j id : Nat) {cs : List C} {n : Nat} {e : TypeId} {s m : Nat} {f : Nat → List D} {fz : Bool} (hbx : get σ idb = some (.box cs)) (hj : cs[j]? = some (.ms id n)) (hg : get σ id = some (.row e s m f fz)) (hn : n ≤ m)
    (k : frS (set (set σ id (.row e s m f true)) idb (.box (putAt cs j (.d (.sl s n f))))) fun σ' => MvQ base Q x ⟨env, σ', nx⟩) : MvQ base Q x ⟨env, σ, nx⟩ := by
  rw [frS_eq] at k
  exact MvQ.from (Mv.freezeX idb j id hbx hj hg hn) k
theorem OpsL.frzX {ops : List LIns} {K : St → Prop} {env : List (Nat × V)} {σ : Store} {nx : Nat} (idb j id : Nat) {cs : List C} {n : Nat} {e : TypeId} {s m : Nat} {f : Nat → List D} {fz : Bool} (hbx : get σ idb = some (.box cs)) (hj : cs[j]? = some (.ms id n)) (hg : get σ id = some (.row e s m f fz)) (hn : n ≤ m)
    (k : frS (set (set σ id (.row e s m f true)) idb (.box (putAt cs j (.d (.sl s n f))))) fun σ' => OpsL P N base ops ⟨env, σ', nx⟩ K) : OpsL P N base ops ⟨env, σ, nx⟩ K := by
  rw [frS_eq] at k
  exact ⟨Ops.from (Mv.freezeX idb j id hbx hj hg hn) k.h⟩
theorem SatL.frzX {c : LCode} {Q : Exit → St → Prop} {env : List (Nat × V)} {σ : Store} {nx : Nat} (idb j id : Nat) {cs : List C} {n : Nat} {e : TypeId} {s m : Nat} {f : Nat → List D} {fz : Bool} (hbx : get σ idb = some (.box cs)) (hj : cs[j]? = some (.ms id n)) (hg : get σ id = some (.row e s m f fz)) (hn : n ≤ m)
    (k : frS (set (set σ id (.row e s m f true)) idb (.box (putAt cs j (.d (.sl s n f))))) fun σ' => SatL P N base c ⟨env, σ', nx⟩ Q) : SatL P N base c ⟨env, σ, nx⟩ Q := by
  rw [frS_eq] at k
  exact ⟨Sat.from (Mv.freezeX idb j id hbx hj hg hn) k.h⟩
theorem nmAt_nil (base : Nat) : nmAt base [] = id := by
  funext i
  unfold nmAt
  split <;> rfl
theorem CallD.of [m : Mix P] {f : FuncId} {lc : LCode} {rl : List RL} {args vs : List V} {σ σ' : Store} {nx nx' : Nat} (hf : FnOk P f N lc rl) (hN : Nat.ble args.length N = true) (hle : Nat.ble nx nx' = true) (hin : Is nx ⟨argEnv 0 args, σ, nx⟩ ⟨argEnv 0 args, σ, nx⟩ [])
    (h : wp P N nx lc ⟨argEnv 0 args, σ, nx⟩ (RetQ nx rl vs σ' nx')) : CallD P f args σ nx (retV vs) σ' nx' := by
  obtain ⟨hent, own, fn, h1, h2⟩ := hf
  have := hin.wk
  rw [nmAt_nil] at this
  exact CallD.enter h1 hent h2 (Nat.le_of_ble_eq_true hN) (Nat.le_of_ble_eq_true hle) this (Sat.of h)
theorem RetQ.is {nx nx' : Nat} {rl : List RL} {vs : List V} {σ' : Store} {e : Exit} {env : List (Nat × V)} (hres : resAll env σ' rl = some vs) (he : e = .normal ∨ e = .ret := by first | exact .inr rfl | exact .inl rfl) : RetQ nx rl vs σ' nx' e ⟨env, σ', nx'⟩ :=
  ⟨he, vs, hres, rfl, Mv.refl _ _⟩
end
def DI (d e : D) : Prop := ∀ (I : Nat → Prop) (w : World) (u : Value), RepD I w d u → RepD I w e u
theorem DI.refl (d : D) : DI d d := fun _ _ _ h => h
def DIs (ds es : List D) : Prop := ds.length = es.length ∧ ∀ (j : Nat) d e, ds[j]? = some d → es[j]? = some e → DI d e
theorem DIs.nil : DIs [] [] := ⟨rfl, fun j d e h => by simp at h⟩
theorem DIs.cons {d e : D} {ds es : List D} (h : DI d e) (k : DIs ds es) : DIs (d :: ds) (e :: es) := ⟨by simp [k.1], fun j a b ha hb => by
  cases j with
  | zero => simp at ha hb; subst ha; subst hb; exact h
  | succ j => exact k.2 j a b (by simpa using ha) (by simpa using hb)⟩
theorem DIs.refl (ds : List D) : DIs ds ds := ⟨rfl, fun j d e h h' => by rw [h] at h'; cases h'; exact DI.refl d⟩
theorem DI.sl {s n : Nat} {f g : Nat → List D} (h : ∀ i, i < n → DIs (f i) (g i)) : DI (.sl s n f) (.sl s n g) := fun I w u hu => by
  cases hu with
  | slE s f A c => exact .slE _ _ _ _
  | sl s n f ad c U hn hI hs hc hr =>
    have get : ∀ i j e, i < n → (g i)[j]? = some e → ∃ d, (f i)[j]? = some d ∧ DI d e := fun i j e hi he => by
      have hj : j < (f i).length := by rw [(h i hi).1]; exact (List.getElem?_eq_some_iff.1 he).1
      exact ⟨(f i)[j], List.getElem?_eq_getElem hj, (h i hi).2 j _ _ (List.getElem?_eq_getElem hj) he⟩
    refine .sl s n g ad c U hn hI (fun i hi => by rw [← (h i hi).1]; exact hs i hi) (fun i j e hi he => ?_) (fun i j e hi he => ?_)
    · obtain ⟨d, hd, _⟩ := get i j e hi he
      exact hc i j d hi hd
    · obtain ⟨d, hd, hde⟩ := get i j e hi he
      exact hde _ _ _ (hr i j d hi hd)
theorem RI.aggI {ds es : List D} (h : DIs ds es) : RI (.agg (ds.map .d)) (.agg (es.map .d)) := fun Γ w u hu => by
  cases hu with
  | agg cs us hl hr =>
    refine .agg _ _ (by rw [hl]; simp [h.1]) fun i c u hc hu => ?_
    simp only [List.getElem?_map, Option.map_eq_some_iff] at hc
    obtain ⟨e, he, rfl⟩ := hc
    have hj : i < ds.length := by rw [h.1]; exact (List.getElem?_eq_some_iff.1 he).1
    exact h.2 i _ _ (List.getElem?_eq_getElem hj) he _ _ _ (hr i (.d ds[i]) u (by simp [hj]) hu)
theorem RI.cI {d e : D} (h : DI d e) : RI (.c (.d d)) (.c (.d e)) := fun Γ w u hu => by
  cases hu with
  | c x u hr => exact .c _ _ (h _ _ _ hr)
end Go.Pw
set_option linter.unusedSimpArgs false
set_option linter.unusedVariables false
namespace Go.Pw
open Go
theorem mbd {a b A B : Int} (ha : -A ≤ a ∧ a ≤ A) (hb : -B ≤ b ∧ b ≤ B) : -(A * B) ≤ a * b ∧ a * b ≤ A * B := by
  have hA : 0 ≤ A := by omega
  have hB : 0 ≤ B := by omega
  have h : (a * b).natAbs ≤ (A * B).natAbs := by
    rw [Int.natAbs_mul, Int.natAbs_mul]
    exact Nat.mul_le_mul (by omega) (by omega)
  have : 0 ≤ A * B := Int.mul_nonneg hA hB
  omega
abbrev wi (n lo hi : Int) : Bool := decide (lo ≤ n ∧ n ≤ hi)
def unb : Bool → Int → Int
  | true, _ => 0
  | false, e => e
abbrev unl (p : Prop) [Decidable p] (e : Int) : Int := unb (decide p) e
def fstE : List Int → Int
  | [] => 0
  | e :: l => if e = 0 then fstE l else e
theorem fstE_drop (l : List Int) (k : Nat) (h : k < l.length) : fstE (l.drop k) = if l.getD k 0 = 0 then fstE (l.drop (k + 1)) else l.getD k 0 := by
  rw [List.drop_eq_getElem_cons h, fstE, List.getD_eq_getElem?_getD, List.getElem?_eq_getElem h]
  rfl
theorem ext_getD {α : Type} (d : α) {l m : List α} (hl : l.length = m.length) (h : ∀ i, i < l.length → l.getD i d = m.getD i d) : l = m := by
  refine List.ext_getElem hl fun i h1 h2 => ?_
  have := h i h1
  simpa [List.getD_eq_getElem?_getD, h1, h2] using this
abbrev gcdI (a b : Int) : Int := Int.gcd a b
abbrev Lk := Int × Int × Int
abbrev Rg := Int × Int
abbrev lkOk (k : Lk) : Prop := (1 ≤ k.1 ∧ k.1 ≤ 1000) ∧ (-1000 ≤ k.2.1 ∧ k.2.1 ≤ 1000) ∧ 0 ≤ k.2.2 ∧ k.2.2 ≤ 20
abbrev curOk (n : Int) : Prop := -50 ≤ n ∧ n ≤ 50
theorem fstE_ok : ∀ {l : List Int}, fstE l = 0 ↔ ∀ e ∈ l, e = 0
  | [] => by simp [fstE]
  | e :: l => by
    rw [fstE]
    split
    · rename_i h; rw [fstE_ok (l := l)]; simp [h]
    · rename_i h; simp [h]
theorem unb_ok {b : Bool} {e : Int} (he : e ≠ 0) : unb b e = 0 ↔ b = true := by cases b <;> simp [unb, he]
structure LnOk (x z : Int) (l : List Lk) : Prop where
  x : -10000 ≤ x ∧ x ≤ 10000
  z : -10000 ≤ z ∧ z ≤ 10000
  n : 0 < l.length ∧ l.length ≤ 10
  l : ∀ k ∈ l, lkOk k
structure Ln where
  x : Int
  z : Int
  l : List Lk
  b : List Rg
abbrev Ln.v (L : Ln) : List C := [int L.x, int L.z, trs L.l, prs L.b]
def Ln.h (L : Ln) (k : Nat) : Int := (L.l.getD k (0, 0, 0)).1
def Ln.w (L : Ln) (k : Nat) : Int := (L.l.getD k (0, 0, 0)).2.1
def Ln.d (L : Ln) (k : Nat) : Int := (L.l.getD k (0, 0, 0)).2.2
def Ln.lo (L : Ln) (k : Nat) : Int := (L.b.getD k (0, 0)).1
def Ln.hi (L : Ln) (k : Nat) : Int := (L.b.getD k (0, 0)).2
def Ln.pl (L : Ln) : Nat → Int
  | 0 => L.x
  | k + 1 => L.pl k + L.d k * L.lo k
def Ln.ph (L : Ln) : Nat → Int
  | 0 => L.x
  | k + 1 => L.ph k + L.d k * L.hi k
def Ln.pz (L : Ln) : Nat → Int
  | 0 => L.z
  | k + 1 => L.pz k + L.w k
def Ln.hh (L : Ln) : Nat → Int
  | 0 => 0
  | k + 1 => L.h k
structure Ln.Ok (L : Ln) : Prop where
  k : LnOk L.x L.z L.l
  b : L.b.length = L.l.length
  c : ∀ r ∈ L.b, curOk r.1 ∧ curOk r.2 ∧ r.1 ≤ r.2
theorem getD_mem {α : Type} {l : List α} {k : Nat} (d : α) (h : k < l.length) : l.getD k d ∈ l := by
  rw [List.getD_eq_getElem?_getD, List.getElem?_eq_getElem h]; exact List.getElem_mem _
theorem Ln.Ok.lk {L : Ln} (h : L.Ok) {k : Nat} (hk : k < L.l.length) : (1 ≤ L.h k ∧ L.h k ≤ 1000) ∧ (-1000 ≤ L.w k ∧ L.w k ≤ 1000) ∧ 0 ≤ L.d k ∧ L.d k ≤ 20 := h.k.l _ (getD_mem _ hk)
theorem Ln.Ok.rg {L : Ln} (h : L.Ok) {k : Nat} (hk : k < L.l.length) : (-50 ≤ L.lo k ∧ L.lo k ≤ 50) ∧ (-50 ≤ L.hi k ∧ L.hi k ≤ 50) ∧ L.lo k ≤ L.hi k := h.c _ (getD_mem _ (by rw [h.b]; exact hk))
theorem Ln.Ok.dlo {L : Ln} (h : L.Ok) {k : Nat} (hk : k < L.l.length) : -1000 ≤ L.d k * L.lo k ∧ L.d k * L.lo k ≤ 1000 := by
  have h1 := h.lk hk
  have h2 := h.rg hk
  exact mbd (A := 20) (B := 50) (by omega) (by omega)
theorem Ln.Ok.dhi {L : Ln} (h : L.Ok) {k : Nat} (hk : k < L.l.length) : -1000 ≤ L.d k * L.hi k ∧ L.d k * L.hi k ≤ 1000 := by
  have h1 := h.lk hk
  have h2 := h.rg hk
  exact mbd (A := 20) (B := 50) (by omega) (by omega)
theorem Ln.Ok.bd {L : Ln} (h : L.Ok) : ∀ k : Nat, k ≤ L.l.length → (-20000 ≤ L.pl k ∧ L.pl k ≤ 20000) ∧ (-20000 ≤ L.ph k ∧ L.ph k ≤ 20000) ∧ -20000 ≤ L.pz k ∧ L.pz k ≤ 20000 := by
  have key : ∀ k : Nat, k ≤ L.l.length → (-10000 - 1000 * k ≤ L.pl k ∧ L.pl k ≤ 10000 + 1000 * k) ∧ (-10000 - 1000 * k ≤ L.ph k ∧ L.ph k ≤ 10000 + 1000 * k) ∧ -10000 - 1000 * k ≤ L.pz k ∧ L.pz k ≤ 10000 + 1000 * k := by
    intro k
    induction k with
    | zero => intro _; have := h.k.x; have := h.k.z; simp only [Ln.pl, Ln.ph, Ln.pz]; omega
    | succ k ih =>
      intro hk
      have := ih (by omega)
      have h1 := h.dlo (k := k) (by omega)
      have h2 := h.dhi (k := k) (by omega)
      have h3 := h.lk (k := k) (by omega)
      simp only [Ln.pl, Ln.ph, Ln.pz]
      omega
  intro k hk
  have := key k hk
  have := h.k.n
  omega
theorem Ln.Ok.round {L : Ln} (h : L.Ok) {k : Nat} (hk : k < L.l.length) :
    (-1000 ≤ (L.l.getD k (0, 0, 0)).2.2 * (L.b.getD k (0, 0)).1 ∧ (L.l.getD k (0, 0, 0)).2.2 * (L.b.getD k (0, 0)).1 ≤ 1000) ∧
    (-1000 ≤ (L.l.getD k (0, 0, 0)).2.2 * (L.b.getD k (0, 0)).2 ∧ (L.l.getD k (0, 0, 0)).2.2 * (L.b.getD k (0, 0)).2 ≤ 1000) ∧
    (-1000 ≤ (L.l.getD k (0, 0, 0)).2.1 ∧ (L.l.getD k (0, 0, 0)).2.1 ≤ 1000) ∧
    ((-20000 ≤ L.pl k ∧ L.pl k ≤ 20000) ∧ (-20000 ≤ L.ph k ∧ L.ph k ≤ 20000) ∧ -20000 ≤ L.pz k ∧ L.pz k ≤ 20000) ∧ L.b.length = L.l.length ∧ 0 < L.l.length ∧ L.l.length ≤ 10 :=
  ⟨h.dlo hk, h.dhi hk, (h.lk hk).2.1, h.bd k (by omega), h.b, h.k.n.1, h.k.n.2⟩
theorem map_take {α β : Type} (f : α → β) (d : α) (l : List α) (k : Nat) (h : k < l.length) : (l.take (k + 1)).map f = (l.take k).map f ++ [f (l.getD k d)] := by
  rw [List.take_succ_eq_append_getElem h, List.map_append, List.getD_eq_getElem?_getD, List.getElem?_eq_getElem h]; rfl
def accL {α : Type} (f : Nat → α) (k : Nat) : List α := (List.range k).map f
theorem accL_succ {α : Type} (f : Nat → α) (k : Nat) : accL f (k + 1) = accL f k ++ [f k] := by simp [accL, List.range_succ]
theorem accL_len {α : Type} (f : Nat → α) (k : Nat) : (accL f k).length = k := by simp [accL]
def fltL (p : Nat → Bool) (k : Nat) : List Int := ((List.range k).filter p).map fun i : Nat => (i : Int)
theorem fltL_succ (p : Nat → Bool) (k : Nat) : fltL p (k + 1) = if p k = true then fltL p k ++ [(k : Int)] else fltL p k := by
  simp only [fltL, List.range_succ, List.filter_append, List.map_append]
  by_cases h : p k = true <;> simp [h]
theorem fltL_len (p : Nat → Bool) (k : Nat) : (fltL p k).length ≤ k := by
  have := List.length_filter_le p (List.range k)
  simp [fltL] at *; exact this
end Go.Pw
set_option linter.unusedVariables false
set_option maxHeartbeats 2000000
set_option maxRecDepth 100000
namespace Go.Pw
open Go Go.Proofs
abbrev zR (n : Nat) : Operand := .tmp n
abbrev zK (n : Int) : Operand := .const (.int .i64 n)
abbrev zB (b : Bool) : Operand := .const (.bool b)
abbrev zI (d : Nat) (o : LOp) : LIns := ⟨some d, o, none⟩
abbrev zM (d s : Nat) : LIns := ⟨some d, .mv (.tmp s), none⟩
abbrev zL (d s : Nat) : LIns := ⟨some d, .load false 1 (.tmp s), none⟩
abbrev zN (o : LOp) : LIns := ⟨none, o, none⟩
abbrev zT (d g : Nat) (o : LOp) : LIns := ⟨some d, o, some (g, true)⟩
abbrev zF (d g : Nat) (o : LOp) : LIns := ⟨some d, o, some (g, false)⟩
abbrev zC (f : Nat) (xs : List Operand) : LOp := .call (.func f) xs
abbrev zQ (o : List LIns) (c : LCode) : LCode := .seq (.region o) c
def lc7 : LCode :=
 (zQ [zI 3 (.boxS (zR 0)), zI 4 (.boxS (zR 1)), zI 5 (.box (zR 2)), zI 6 (.mv (zB false))] (.seq (zQ [zI 47 (zC 58 []), zI 48 (.un .not (zR 47))] (.cond (zR 48) (zQ [zI 6 (.mv (zB false))] .ret) .skip)) (.seq (zQ [zI 49
 (.load true 8 (zR 3)), zI 50 (zC 59 [(zR 49)]), zI 51 (.un .not (zR 50)), zM 52 51, zF 53 52 (.fld 4 (zR 4)), zF 54 52 (.load false 1 (zR 53)), zF 55 52 (.len (zR 54)), zF 56 52 (.bin .gtr (zR 55) (zK 6)), zI 57 (.pick
 (zR 52) (zB true) (zR 56)), zM 58 57, zF 59 58 (.load true 8 (zR 3)), zF 60 58 (zC 60 [(zR 59)]), zF 61 58 (.bin .neq (zR 60) (zK 0)), zI 62 (.pick (zR 58) (zB true) (zR 61)), zM 63 62, zF 64 63 (.load true 8 (zR 3)), zF
 65 63 (.load true 5 (zR 4)), zF 66 63 (zC 61 [(zR 64), (zR 65)]), zF 67 63 (.bin .neq (zR 66) (zK 0)), zI 68 (.pick (zR 63) (zB true) (zR 67)), zM 69 68, zF 70 69 (.load true 8 (zR 3)), zF 71 69 (.load true 5 (zR 4)), zF
 72 69 (zC 62 [(zR 70), (zR 71)]), zF 73 69 (.un .not (zR 72)), zI 74 (.pick (zR 69) (zB true) (zR 73))] (.cond (zR 74) (zQ [zI 6 (.mv (zB true))] .ret) .skip)) (.seq (.regionD [zI 76 (.load true 8 (zR 3)), zI 77 (zC 65
 [(zR 76)]), zI 78 (.load true 5 (zR 4)), zI 79 (zC 30 [(zR 78)]), zI 80 (zC 64 [(zR 77), (zR 79)]), zM 75 80, zI 81 (.ext (zR 75) 0), zI 82 (.ext (zR 75) 1), zI 83 (.ext (zR 75) 2), zM 7 81, zM 8 82, zM 9 83] [0, 1, 0,
 7, 15, 31, 63, 63, 63, 127, 767, 2047] [0, 1, 2, 3, 4, 5, 6, 7, 8, 9, 10, 11]) (zQ [zM 85 7, zI 86 (zC 32 [(zR 85)]), zI 87 (zC 31 [(zR 86)]), zI 88 (zC 35 [(zR 87)]), zM 84 88, zI 89 (.ext (zR 84) 0), zI 90 (.ext (zR
 84) 1), zM 10 89, zM 11 90] (.seq (.regionD [zI 92 (.load true 8 (zR 3)), zI 93 (zC 65 [(zR 92)]), zI 94 (.load true 5 (zR 4)), zI 95 (zC 30 [(zR 94)]), zM 96 10, zI 97 (zC 32 [(zR 96)]), zI 98 (zC 73 [(zR 93), (zR 95),
 (zR 97)]), zM 91 98, zI 99 (.ext (zR 91) 0), zI 100 (.ext (zR 91) 1), zM 12 99, zM 13 100] [0, 1, 0, 7, 0, 31, 63, 127, 255, 255, 511, 2047] [0, 1, 2, 3, 4, 5, 6, 7, 8, 9, 10, 11]) (.seq (.regionD [zI 102 (.load true 8
 (zR 3)), zI 103 (zC 65 [(zR 102)]), zI 104 (.load true 5 (zR 4)), zI 105 (zC 30 [(zR 104)]), zM 106 10, zI 107 (zC 32 [(zR 106)]), zI 108 (zC 74 [(zR 103), (zR 105), (zR 107)]), zM 101 108, zI 109 (.ext (zR 101) 0), zI
 110 (.ext (zR 101) 1), zM 14 109, zM 15 110] [0, 1, 0, 7, 0, 31, 63, 127, 255, 255, 511, 2047] [0, 1, 2, 3, 4, 5, 6, 7, 8, 9, 10, 11]) (.seq (zQ [zM 111 9, zI 112 (.bin .neq (zR 111) (zK 0)), zM 113 112, zF 114 113 (.mv
 (zR 11)), zF 115 113 (.bin .neq (zR 114) (zK 0)), zI 116 (.pick (zR 113) (zB true) (zR 115)), zM 117 116, zF 118 117 (.mv (zR 10)), zF 119 117 (.mv (zR 7)), zF 120 117 (zC 44 [(zR 118), (zR 119)]), zF 121 117 (.un .not
 (zR 120)), zI 122 (.pick (zR 117) (zB true) (zR 121)), zM 123 122, zF 124 123 (.mv (zR 13)), zF 125 123 (.bin .neq (zR 124) (zK 0)), zI 126 (.pick (zR 123) (zB true) (zR 125)), zM 127 126, zF 128 127 (.mv (zR 12)), zF
 129 127 (.mv (zR 8)), zF 130 127 (.bin .neq (zR 128) (zR 129)), zI 131 (.pick (zR 127) (zB true) (zR 130)), zM 132 131, zF 133 132 (.mv (zR 15)), zF 134 132 (.bin .neq (zR 133) (zK 0)), zI 135 (.pick (zR 132) (zB true)
 (zR 134)), zM 136 135, zF 137 136 (.mv (zR 14)), zF 138 136 (.len (zR 137)), zF 139 136 (.mv (zR 10)), zF 140 136 (.len (zR 139)), zF 141 136 (.bin .add (zR 140) (zK 1)), zF 142 136 (.bin .neq (zR 138) (zR 141)), zI 143
 (.pick (zR 136) (zB true) (zR 142)), zM 144 143, zF 145 144 (.mv (zR 10)), zF 146 144 (.len (zR 145)), zF 147 144 (.fld 0 (zR 3)), zF 148 144 (.load false 1 (zR 147)), zF 149 144 (.len (zR 148)), zF 150 144 (.bin .gtr
 (zR 146) (zR 149)), zI 151 (.pick (zR 144) (zB true) (zR 150))] (.cond (zR 151) (zQ [zI 6 (.mv (zB false))] .ret) .skip)) (.seq (zQ [zI 16 (.mv (zK 0))] (.block 0 (.loop (.seq (zQ [zM 152 16, zM 153 14, zI 154 (.len (zR
 153)), zI 155 (.bin .lss (zR 152) (zR 154))] (.cond (zR 155) .skip (.exit 0))) (.seq (.block 1 (zQ [zM 159 14, zM 160 16, zI 161 (.idx 5 (zR 159) (zR 160)), zI 162 (.load true 5 (zR 161)), zI 163 (zC 30 [(zR 162)]), zI
 164 (zC 29 [(zR 163)]), zI 165 (zC 34 [(zR 164)]), zM 158 165, zI 166 (.ext (zR 158) 0), zI 167 (.ext (zR 158) 1), zI 17 (.alloc [(.int .i64 0), (.int .i64 0), (.int .i64 0), (.int .i64 0), (.slice none 0 0)]), zN
 (.store 5 (zR 17) (zR 166)), zM 18 167] (.seq (.seq (.regionD [zM 168 18, zI 169 (.bin .neq (zR 168) (zK 0)), zM 170 169, zF 171 170 (.load true 5 (zR 17)), zF 172 170 (.mv (zR 14)), zF 173 170 (.mv (zR 16)), zF 174 170
 (.idx 5 (zR 172) (zR 173)), zF 175 170 (.load true 5 (zR 174)), zF 176 170 (zC 43 [(zR 171), (zR 175)]), zF 177 170 (.un .not (zR 176)), zI 178 (.pick (zR 170) (zB true) (zR 177))] [0, 1, 3, 7, 7, 7, 55, 119, 255, 511,
 1023] [0, 1, 2, 3, 4, 5, 6, 7, 8, 9, 10]) (.cond (zR 178) (zQ [zI 6 (.mv (zB false))] .ret) .skip)) (.seq (.regionD [zI 180 (.load true 8 (zR 3)), zI 181 (zC 65 [(zR 180)]), zI 182 (.load true 5 (zR 17)), zI 183 (zC 30
 [(zR 182)]), zI 184 (zC 75 [(zR 181), (zR 183)]), zM 179 184, zI 185 (.ext (zR 179) 0), zI 186 (.ext (zR 179) 1), zM 19 185, zM 20 186] [0, 1, 0, 7, 15, 31, 63, 63, 127, 511] [0, 1, 2, 3, 4, 5, 6, 7, 8, 9]) (.seq
 (.regionD [zI 188 (.load true 8 (zR 3)), zI 189 (zC 65 [(zR 188)]), zI 190 (.load true 5 (zR 17)), zI 191 (zC 30 [(zR 190)]), zI 192 (zC 76 [(zR 189), (zR 191)]), zM 187 192, zI 193 (.ext (zR 187) 0), zI 194 (.ext (zR
 187) 1), zM 21 193, zM 22 194] [0, 1, 0, 7, 15, 31, 63, 63, 127, 511] [0, 1, 2, 3, 4, 5, 6, 7, 8, 9]) (.seq (.regionD [zI 196 (.load true 8 (zR 3)), zI 197 (zC 65 [(zR 196)]), zI 198 (.load true 5 (zR 17)), zI 199 (zC 30
 [(zR 198)]), zI 200 (zC 77 [(zR 197), (zR 199)]), zM 195 200, zI 201 (.ext (zR 195) 0), zI 202 (.ext (zR 195) 1), zI 23 (.alloc [(.int .i64 0), (.int .i64 0)]), zN (.store 2 (zR 23) (zR 201)), zM 24 202] [0, 1, 0, 7, 15,
 31, 63, 63, 0, 383, 1023] [0, 1, 2, 3, 4, 5, 6, 7, 8, 9, 10]) (.seq (.seq (.regionD [zM 203 20, zI 204 (.bin .neq (zR 203) (zK 0)), zM 205 204, zF 206 205 (.mv (zR 19)), zF 207 205 (.un .not (zR 206)), zI 208 (.pick (zR
 205) (zB true) (zR 207)), zM 209 208, zF 210 209 (.mv (zR 22)), zF 211 209 (.bin .neq (zR 210) (zK 0)), zI 212 (.pick (zR 209) (zB true) (zR 211)), zM 213 212, zF 214 213 (.mv (zR 21)), zF 215 213 (.mv (zR 14)), zF 216
 213 (.mv (zR 16)), zF 217 213 (.idx 5 (zR 215) (zR 216)), zF 218 213 (.fld 1 (zR 217)), zF 219 213 (.load false 1 (zR 218)), zF 220 213 (.bin .lss (zR 214) (zR 219)), zI 221 (.pick (zR 213) (zB true) (zR 220)), zM 222
 221, zF 223 222 (.mv (zR 24)), zF 224 222 (.bin .neq (zR 223) (zK 0)), zI 225 (.pick (zR 222) (zB true) (zR 224)), zM 226 225, zF 227 226 (.mv (zR 14)), zF 228 226 (.mv (zR 16)), zF 229 226 (.idx 5 (zR 227) (zR 228)), zF
 230 226 (.fld 1 (zR 229)), zF 231 226 (.load false 1 (zR 230)), zF 232 226 (.fld 0 (zR 23)), zF 233 226 (.load false 1 (zR 232)), zF 234 226 (.bin .add (zR 231) (zR 233)), zF 235 226 (.fld 7 (zR 3)), zF 236 226 (.load
 false 1 (zR 235)), zF 237 226 (.bin .gtr (zR 234) (zR 236)), zI 238 (.pick (zR 226) (zB true) (zR 237)), zM 239 238, zF 240 239 (.mv (zR 14)), zF 241 239 (.mv (zR 16)), zF 242 239 (.idx 5 (zR 240) (zR 241)), zF 243 239
 (.fld 2 (zR 242)), zF 244 239 (.load false 1 (zR 243)), zF 245 239 (.fld 1 (zR 23)), zF 246 239 (.load false 1 (zR 245)), zF 247 239 (.bin .sub (zR 244) (zR 246)), zF 248 239 (.fld 6 (zR 3)), zF 249 239 (.load false 1
 (zR 248)), zF 250 239 (.bin .lss (zR 247) (zR 249)), zI 251 (.pick (zR 239) (zB true) (zR 250))] [0, 1, 3, 7, 15, 31, 63, 127, 255, 511, 1023, 2047, 2047, 2047, 14335, 30719, 63487, 131071, 262143, 524287, 1048575,
 2097151, 4194303, 8388607, 16777215, 16777215, 67108863, 134217727, 268435455, 16777215, 553648127, 2147483647, 16777215, 4311744511, 17179869183, 34359738367, 68719476735, 137438953471, 137438953471, 549755813887,
 1099511627775, 2199023255551, 137438953471, 4535485464575, 17592186044415, 137438953471, 35321811042303, 140737488355327, 281474976710655] [0, 1, 2, 3, 4, 5, 6, 7, 8, 9, 10, 11, 12, 13, 14, 15, 16, 17, 18, 19, 20, 21,
 22, 23, 24, 25, 26, 27, 28, 29, 30, 31, 32, 33, 34, 35, 36, 37, 38, 39, 40, 41, 42, 43, 44, 45, 46, 47, 48]) (.cond (zR 251) (zQ [zI 6 (.mv (zB false))] .ret) .skip)) (.seq (.seq (.regionD [zI 253 (.load true 8 (zR 3)),
 zI 254 (zC 65 [(zR 253)]), zI 255 (.load true 5 (zR 17)), zI 256 (zC 30 [(zR 255)]), zM 257 10, zM 258 16, zI 259 (.slc 1 (zR 257) (some (zR 258)) none), zI 260 (zC 32 [(zR 259)]), zI 261 (zC 73 [(zR 254), (zR 256), (zR
 260)]), zM 252 261, zI 262 (.ext (zR 252) 0), zI 263 (.ext (zR 252) 1), zM 25 262, zM 26 263] [0, 1, 0, 7, 0, 0, 48, 127, 255, 511, 1023, 1023, 2047, 8191] [0, 1, 2, 3, 4, 5, 6, 7, 8, 9, 10, 11, 12, 13]) (zQ [zM 264 26,
 zI 265 (.bin .neq (zR 264) (zK 0))] (.cond (zR 265) (zQ [zI 6 (.mv (zB false))] .ret) .skip))) (.seq (zQ [zM 266 16, zM 267 10, zI 268 (.len (zR 267)), zI 269 (.bin .eql (zR 266) (zR 268))] (.cond (zR 269) (.exit 1)
 .skip)) (.seq (.regionD [zI 271 (.load true 8 (zR 3)), zI 272 (zC 65 [(zR 271)]), zI 273 (.load true 5 (zR 17)), zI 274 (zC 30 [(zR 273)]), zM 275 10, zM 276 16, zI 277 (.idx 1 (zR 275) (zR 276)), zL 278 277, zI 279 (zC
 78 [(zR 272), (zR 274), (zR 278)]), zM 270 279, zI 280 (.ext (zR 270) 0), zI 281 (.ext (zR 270) 1), zI 282 (.ext (zR 270) 2), zM 27 280, zM 28 281, zM 29 282] [0, 1, 0, 7, 0, 0, 48, 112, 255, 511, 1023, 1023, 1023, 2047,
 12287, 32767] [0, 1, 2, 3, 4, 5, 6, 7, 8, 9, 10, 11, 12, 13, 14, 15]) (.seq (.regionD [zI 284 (.load true 8 (zR 3)), zI 285 (zC 65 [(zR 284)]), zM 286 10, zM 287 16, zI 288 (.idx 1 (zR 286) (zR 287)), zL 289 288, zI 290
 (zC 79 [(zR 285), (zR 289)]), zM 283 290, zI 291 (.ext (zR 283) 0), zI 292 (.ext (zR 283) 1), zM 30 291, zM 31 292] [0, 1, 0, 0, 12, 28, 63, 127, 255, 255, 511, 2047] [0, 1, 2, 3, 4, 5, 6, 7, 8, 9, 10, 11]) (.seq
 (.regionD [zI 294 (.load true 8 (zR 3)), zI 295 (zC 65 [(zR 294)]), zI 296 (.load true 5 (zR 17)), zI 297 (zC 30 [(zR 296)]), zM 298 27, zI 299 (zC 32 [(zR 298)]), zI 300 (zC 73 [(zR 295), (zR 297), (zR 299)]), zM 293
 300, zI 301 (.ext (zR 293) 0), zI 302 (.ext (zR 293) 1), zM 32 301, zM 33 302] [0, 1, 0, 7, 0, 31, 63, 127, 255, 255, 511, 2047] [0, 1, 2, 3, 4, 5, 6, 7, 8, 9, 10, 11]) (.seq (.regionD [zI 304 (.load true 8 (zR 3)), zI
 305 (zC 65 [(zR 304)]), zI 306 (.load true 5 (zR 17)), zI 307 (zC 30 [(zR 306)]), zI 308 (zC 64 [(zR 305), (zR 307)]), zM 303 308, zI 309 (.ext (zR 303) 0), zI 310 (.ext (zR 303) 1), zI 311 (.ext (zR 303) 2), zM 34 309,
 zM 35 310, zM 36 311] [0, 1, 0, 7, 15, 31, 63, 63, 63, 127, 767, 2047] [0, 1, 2, 3, 4, 5, 6, 7, 8, 9, 10, 11]) (.seq (zQ [zM 312 29, zI 313 (.bin .neq (zR 312) (zK 0)), zM 314 313, zF 315 314 (.mv (zR 31)), zF 316 314
 (.bin .neq (zR 315) (zK 0)), zI 317 (.pick (zR 314) (zB true) (zR 316)), zM 318 317, zF 319 318 (.mv (zR 33)), zF 320 318 (.bin .neq (zR 319) (zK 0)), zI 321 (.pick (zR 318) (zB true) (zR 320)), zM 322 321, zF 323 322
 (.mv (zR 32)), zF 324 322 (.mv (zR 28)), zF 325 322 (.bin .neq (zR 323) (zR 324)), zI 326 (.pick (zR 322) (zB true) (zR 325)), zM 327 326, zF 328 327 (.mv (zR 36)), zF 329 327 (.bin .neq (zR 328) (zK 0)), zI 330 (.pick
 (zR 327) (zB true) (zR 329)), zM 331 330, zF 332 331 (.mv (zR 28)), zF 333 331 (.mv (zR 35)), zF 334 331 (.bin .gtr (zR 332) (zR 333)), zI 335 (.pick (zR 331) (zB true) (zR 334)), zM 336 335, zF 337 336 (.mv (zR 27)), zF
 338 336 (.mv (zR 10)), zF 339 336 (.mv (zR 16)), zF 340 336 (.idx 1 (zR 338) (zR 339)), zF 341 336 (.load false 1 (zR 340)), zF 342 336 (zC 80 [(zR 337), (zR 341)]), zI 343 (.pick (zR 336) (zB true) (zR 342))] (.cond (zR
 343) (zQ [zI 6 (.mv (zB false))] .ret) .skip)) (zQ [zI 37 (.mv (zK 0))] (.block 2 (.loop (.seq (zQ [zM 344 37, zM 345 30, zI 346 (.len (zR 345)), zI 347 (.bin .lss (zR 344) (zR 346))] (.cond (zR 347) .skip (.exit 2)))
 (.seq (.block 3 (zQ [zM 350 27, zM 351 30, zM 352 37, zI 353 (.idx 1 (zR 351) (zR 352)), zL 354 353, zI 355 (zC 80 [(zR 350), (zR 354)])] (.cond (zR 355) (zQ [zI 6 (.mv (zB false))] .ret) .skip))) (.region [zM 348 37, zI
 349 (.bin .add (zR 348) (zK 1)), zM 37 349])))))))))))))))))))) (.region [zM 156 16, zI 157 (.bin .add (zR 156) (zK 1)), zM 16 157])))))) (.seq (.regionD [zI 357 (.load true 8 (zR 3)), zI 358 (zC 65 [(zR 357)]), zM 359
 14, zM 360 14, zI 361 (.len (zR 360)), zI 362 (.bin .sub (zR 361) (zK 1)), zI 363 (.idx 5 (zR 359) (zR 362)), zI 364 (.load true 5 (zR 363)), zI 365 (zC 30 [(zR 364)]), zI 366 (zC 76 [(zR 358), (zR 365)]), zM 356 366, zI
 367 (.ext (zR 356) 0), zI 368 (.ext (zR 356) 1), zM 38 367, zM 39 368] [0, 1, 0, 0, 8, 24, 60, 124, 255, 511, 1023, 2047, 2047, 4095, 16383] [0, 1, 2, 3, 4, 5, 6, 7, 8, 9, 10, 11, 12, 13, 14]) (zQ [zI 369 (.fld 1 (zR
 4)), zL 370 369, zM 371 38, zI 372 (.build [(.int .i64 0), (.int .i64 0)] [(0, 1, (zR 370)), (1, 1, (zR 371))]), zI 373 (.fld 0 (zR 5)), zN (.store 2 (zR 373) (zR 372))] (.seq (zQ [zM 374 39, zI 375 (.bin .neq (zR 374)
 (zK 0)), zM 376 375, zF 377 376 (.load true 5 (zR 5)), zF 378 376 (zC 81 [(zR 377)]), zF 379 376 (.bin .neq (zR 378) (zK 0)), zI 380 (.pick (zR 376) (zB true) (zR 379))] (.cond (zR 380) (zQ [zM 381 39, zI 382 (.bin .eql
 (zR 381) (zK 0)), zM 6 382] .ret) .skip)) (zQ [zI 384 (.load true 5 (zR 5)), zI 385 (zC 82 [(zR 384)]), zM 383 385, zI 386 (.ext (zR 383) 0), zI 387 (.ext (zR 383) 1), zM 40 386, zM 41 387] (.seq (zQ [zM 388 41, zI 389
 (.bin .neq (zR 388) (zK 0))] (.cond (zR 389) (zQ [zM 390 41, zI 391 (.bin .eql (zR 390) (zK 8)), zM 392 391, zF 393 392 (.mv (zR 41)), zF 394 392 (.bin .eql (zR 393) (zK 24)), zI 395 (.pick (zR 392) (zB true) (zR 394)),
 zM 6 395] .ret) .skip)) (.seq (.regionD [zI 397 (.load true 5 (zR 5)), zM 398 40, zI 399 (zC 84 [(zR 398)]), zI 400 (zC 83 [(zR 397), (zR 399)]), zM 396 400, zI 401 (.ext (zR 396) 0), zI 402 (.ext (zR 396) 1), zM 42 401,
 zM 43 402] [0, 0, 2, 7, 15, 31, 31, 63, 255] [0, 1, 2, 3, 4, 5, 6, 7, 8]) (.seq (zQ [zI 44 (.mv (zK 0))] (.block 4 (.loop (.seq (zQ [zM 403 44, zM 404 14, zI 405 (.len (zR 404)), zI 406 (.bin .lss (zR 403) (zR 405))]
 (.cond (zR 406) .skip (.exit 4))) (.seq (.block 5 (zQ [zI 45 (.mv (zK 0))] (.seq (zQ [zI 46 (.mv (zK 0))] (.block 6 (.loop (.seq (zQ [zM 409 46, zM 410 40, zI 411 (.len (zR 410)), zI 412 (.bin .lss (zR 409) (zR 411))]
 (.cond (zR 412) .skip (.exit 6))) (.seq (.block 7 (.seq (.regionD [zM 415 14, zM 416 44, zI 417 (.idx 5 (zR 415) (zR 416)), zI 418 (.fld 1 (zR 417)), zL 419 418, zM 420 40, zM 421 46, zI 422 (.idx 3 (zR 420) (zR 421)),
 zI 423 (.fld 1 (zR 422)), zI 424 (.fld 0 (zR 423)), zL 425 424, zM 426 40, zM 427 46, zI 428 (.idx 3 (zR 426) (zR 427)), zI 429 (.fld 1 (zR 428)), zI 430 (.fld 1 (zR 429)), zL 431 430, zI 432 (zC 46 [(zR 419), (zR 425),
 (zR 431)])] [0, 0, 3, 7, 15, 0, 0, 96, 224, 480, 992, 0, 0, 6144, 14336, 30720, 63488, 131071] [0, 1, 2, 3, 4, 5, 6, 7, 8, 9, 10, 11, 12, 13, 14, 15, 16, 17]) (.cond (zR 432) (.region [zM 433 45, zI 434 (.bin .add (zR
 433) (zK 1)), zM 45 434]) .skip))) (.region [zM 413 46, zI 414 (.bin .add (zR 413) (zK 1)), zM 46 414])))))) (zQ [zM 435 45, zI 436 (.bin .neq (zR 435) (zK 1))] (.cond (zR 436) (zQ [zI 6 (.mv (zB false))] .ret)
 .skip))))) (.region [zM 407 44, zI 408 (.bin .add (zR 407) (zK 1)), zM 44 408])))))) (zQ [zM 437 43, zI 438 (.bin .eql (zR 437) (zK 0)), zM 6 438] .ret)))))))))))))))))
theorem low7 : lowF Tryz.prog [3, 4] Tryz.f7 = some (439, lc7.strip, [.tmp 6]) := by kernel_rfl
theorem fn7 : FnOk Tryz.prog 7 439 lc7 [.tmp 6] := ⟨Tryz.call7, [3, 4], _, Tryz.func7, low7⟩
def lc25 : LCode :=
 (zQ [zI 2 (.mv (zB false))] (.seq (zQ [zM 4 0, zI 5 (.len (zR 4)), zI 6 (.bin .gtr (zR 5) (zK 8))] (.cond (zR 6) (zQ [zI 2 (.mv (zB false))] .ret) .skip)) (.seq (zQ [zI 3 (.mv (zK 0))] (.block 0 (.loop (.seq (zQ [zM 7 3,
 zM 8 0, zI 9 (.len (zR 8)), zI 10 (.bin .lss (zR 7) (zR 9))] (.cond (zR 10) .skip (.exit 0))) (.seq (.block 1 (zQ [zM 13 0, zM 14 3, zI 15 (.idx 9 (zR 13) (zR 14)), zI 16 (.fld 0 (zR 15)), zL 17 16, zI 18 (.lenS (zR
 17)), zI 19 (.bin .gtr (zR 18) (zK 20)), zM 20 19, zF 21 20 (.mv (zR 0)), zF 22 20 (.mv (zR 3)), zF 23 20 (.idx 9 (zR 21) (zR 22)), zF 24 20 (.fld 8 (zR 23)), zF 25 20 (.load false 1 (zR 24)), zF 26 20 (.len (zR 25)), zF
 27 20 (.bin .gtr (zR 26) (zK 8)), zI 28 (.pick (zR 20) (zB true) (zR 27))] (.cond (zR 28) (zQ [zI 2 (.mv (zB false))] .ret) .skip))) (.region [zM 11 3, zI 12 (.bin .add (zR 11) (zK 1)), zM 3 12])))))) (zQ [zI 2 (.mv (zB
 true))] .ret))))
theorem low25 : lowF Tryz.prog [] Tryz.f25 = some (29, lc25.strip, [.tmp 2]) := by kernel_rfl
theorem fn25 : FnOk Tryz.prog 25 29 lc25 [.tmp 2] := ⟨Tryz.call25, [], _, Tryz.func25, low25⟩
def lc28 : LCode :=
 (zQ [zI 2 (.mv (.const (.slice none 0 0)))] (zQ [zI 3 (.mv (.const (.slice none 0 0)))] (.seq (zQ [zI 4 (.mv (zK 0))] (.block 0 (.loop (.seq (zQ [zM 6 4, zM 7 0, zI 8 (.len (zR 7)), zI 9 (.bin .lss (zR 6) (zR 8))] (.cond
 (zR 9) .skip (.exit 0))) (.seq (.block 1 (zQ [zM 12 0, zM 13 4, zI 14 (.idx 9 (zR 12) (zR 13)), zI 15 (.load true 9 (zR 14)), ⟨some 5, .alloc [(.string ⟨#[]⟩), (.int .i64 0), (.int .i64 0), (.int .i64 0), (.int .i64 0),
 (.int .i64 0), (.int .i64 0), (.int .i64 0), (.slice none 0 0)], none⟩, zN (.store 9 (zR 5) (zR 15))] (zQ [zI 16 (.fld 8 (zR 5)), zL 17 16, zI 18 (zC 32 [(zR 17)]), zI 19 (.fld 8 (zR 5)), zN (.store 1 (zR 19) (zR 18))]
 (.region [zM 20 3, zI 21 (.load true 9 (zR 5)), zI 22 (.lit false 182 9 [(zR 21)]), zI 23 (.append true 182 9 96 (zR 20) (zR 22)), zM 3 23])))) (.region [zM 10 4, zI 11 (.bin .add (zR 10) (zK 1)), zM 4 11])))))) (zQ [zM
 24 3, zM 2 24] .ret))))
theorem low28 : lowF Tryz.prog [23] Tryz.f28 = some (25, lc28.strip, [.tmp 2]) := by kernel_rfl
theorem fn28 : FnOk Tryz.prog 28 25 lc28 [.tmp 2] := ⟨Tryz.call28, [23], _, Tryz.func28, low28⟩
def lc29 : LCode :=
 (zQ [zI 1 (.boxS (zR 0)), ⟨some 2, .mv (.const (.string ⟨#[]⟩)), none⟩] (.seq (.regionD [zI 3 (.fld 0 (zR 1)), zL 4 3, zI 5 (.fld 1 (zR 1)), zL 6 5, zI 7 (.fld 2 (zR 1)), zL 8 7, zI 9 (.fld 3 (zR 1)), zL 10 9, zI 11
 (.lit false 3 1 [(zR 4), (zR 6), (zR 8), (zR 10)]), zI 12 (zC 109 [(zR 11)]), ⟨some 13, .catS (zR 12) (.const (.string ⟨#[47]⟩)), none⟩, zI 14 (.fld 4 (zR 1)), zL 15 14, zI 16 (zC 109 [(zR 15)]), zI 17 (.catS (zR 13) (zR
 16)), zM 2 17] [0, 1, 0, 4, 0, 16, 0, 64, 255, 511, 1023, 0, 2048, 7167, 16383, 32767] [0, 1, 2, 3, 4, 5, 6, 7, 8, 9, 10, 11, 12, 13, 14, 15]) .ret))
theorem low29 : lowF Tryz.prog [1] Tryz.f29 = some (18, lc29.strip, [.tmp 2]) := by kernel_rfl
theorem fn29 : FnOk Tryz.prog 29 18 lc29 [.tmp 2] := ⟨Tryz.call29, [1], _, Tryz.func29, low29⟩
def lc30 : LCode :=
 (zQ [zI 1 (.box (zR 0)), zI 2 (.alloc [(.int .i64 0), (.int .i64 0), (.int .i64 0), (.int .i64 0), (.slice none 0 0)])] (zQ [zI 3 (.fld 4 (zR 1)), zL 4 3, zI 5 (zC 32 [(zR 4)]), zI 6 (.fld 4 (zR 1)), zN (.store 1 (zR 6)
 (zR 5))] (zQ [zI 7 (.load true 5 (zR 1)), zN (.store 5 (zR 2) (zR 7))] .ret)))
theorem low30 : lowF Tryz.prog [] Tryz.f30 = some (8, lc30.strip, [.cell 2 true 5]) := by kernel_rfl
theorem fn30 : FnOk Tryz.prog 30 8 lc30 [.cell 2 true 5] := ⟨Tryz.call30, [], _, Tryz.func30, low30⟩
def lc31 : LCode :=
 (zQ [⟨some 2, .mv (.const (.string ⟨#[]⟩)), none⟩] (zQ [zM 3 0, zI 4 (zC 109 [(zR 3)]), zM 2 4] .ret))
theorem low31 : lowF Tryz.prog [] Tryz.f31 = some (5, lc31.strip, [.tmp 2]) := by kernel_rfl
theorem fn31 : FnOk Tryz.prog 31 5 lc31 [.tmp 2] := ⟨Tryz.call31, [], _, Tryz.func31, low31⟩
def lc32 : LCode :=
 (zQ [zI 2 (.mv (.const (.slice none 0 0)))] (zQ [zI 3 (.lit false 3 1 []), zM 4 0, zI 5 (.append false 3 1 8 (zR 3) (zR 4)), zM 2 5] .ret))
theorem low32 : lowF Tryz.prog [] Tryz.f32 = some (6, lc32.strip, [.tmp 2]) := by kernel_rfl
theorem fn32 : FnOk Tryz.prog 32 6 lc32 [.tmp 2] := ⟨Tryz.call32, [], _, Tryz.func32, low32⟩
def lc34 : LCode :=
 (zQ [zI 2 (.alloc [(.int .i64 0), (.int .i64 0), (.int .i64 0), (.int .i64 0), (.slice none 0 0)]), zI 3 (.mv (zK 0))] (.seq (zQ [zM 10 0, zI 11 (.lenS (zR 10)), zI 12 (.bin .gtr (zR 11) (zK 60000))] (.cond (zR 12) (zQ
 [zI 13 (.build [(.int .i64 0), (.int .i64 0), (.int .i64 0), (.int .i64 0), (.slice none 0 0)] []), zN (.store 5 (zR 2) (zR 13)), zI 3 (.mv (zK 8))] .ret) .skip)) (zQ [zM 14 0, ⟨some 15, zC 94 [(zR 14), (.const (.string
 ⟨#[47]⟩))], none⟩, zM 4 15] (.seq (zQ [zM 16 4, zI 17 (.len (zR 16)), zI 18 (.bin .neq (zR 17) (zK 2))] (.cond (zR 18) (zQ [zI 19 (.build [(.int .i64 0), (.int .i64 0), (.int .i64 0), (.int .i64 0), (.slice none 0 0)]
 []), zN (.store 5 (zR 2) (zR 19)), zI 3 (.mv (zK 7))] .ret) .skip)) (zQ [zM 21 4, zI 22 (.idx 1 (zR 21) (zK 0)), zL 23 22, zI 24 (zC 112 [(zR 23), (zK 9)]), zM 20 24, zI 25 (.ext (zR 20) 0), zI 26 (.ext (zR 20) 1), zM 5
 25, zM 6 26] (.seq (zQ [zM 27 6, zI 28 (.un .not (zR 27)), zM 29 28, zF 30 29 (.mv (zR 5)), zF 31 29 (.len (zR 30)), zF 32 29 (.bin .neq (zR 31) (zK 4)), zI 33 (.pick (zR 29) (zB true) (zR 32))] (.cond (zR 33) (zQ [zI 34
 (.build [(.int .i64 0), (.int .i64 0), (.int .i64 0), (.int .i64 0), (.slice none 0 0)] []), zN (.store 5 (zR 2) (zR 34)), zI 3 (.mv (zK 7))] .ret) .skip)) (.seq (.regionD [zM 35 5, zI 36 (.idx 1 (zR 35) (zK 0)), zL 37
 36, zM 38 5, zI 39 (.idx 1 (zR 38) (zK 1)), zL 40 39, zM 41 5, zI 42 (.idx 1 (zR 41) (zK 2)), zL 43 42, zM 44 5, zI 45 (.idx 1 (zR 44) (zK 3)), zL 46 45, zI 47 (.build [(.int .i64 0), (.int .i64 0), (.int .i64 0), (.int
 .i64 0), (.slice none 0 0)] [(0, 1, (zR 37)), (1, 1, (zR 40)), (2, 1, (zR 43)), (3, 1, (zR 46))]), zI 7 (.alloc [(.int .i64 0), (.int .i64 0), (.int .i64 0), (.int .i64 0), (.slice none 0 0)]), zN (.store 5 (zR 7) (zR
 47))] [0, 1, 3, 0, 8, 24, 0, 64, 192, 0, 512, 1536, 4095, 0, 16383] [0, 1, 2, 3, 4, 5, 6, 7, 8, 9, 10, 11, 12, 13, 14]) (.seq (zQ [zM 48 4, zI 49 (.idx 1 (zR 48) (zK 1)), zL 50 49, ⟨some 51, .eqS true (zR 50) (.const
 (.string ⟨#[]⟩)), none⟩] (.cond (zR 51) (zQ [zM 53 4, zI 54 (.idx 1 (zR 53) (zK 1)), zL 55 54, zI 56 (zC 112 [(zR 55), (zK 9)]), zM 52 56, zI 57 (.ext (zR 52) 0), zI 58 (.ext (zR 52) 1), zM 8 57, zM 9 58] (.seq (zQ [zM
 59 9, zI 60 (.un .not (zR 59))] (.cond (zR 60) (zQ [zI 61 (.build [(.int .i64 0), (.int .i64 0), (.int .i64 0), (.int .i64 0), (.slice none 0 0)] []), zN (.store 5 (zR 2) (zR 61)), zI 3 (.mv (zK 7))] .ret) .skip))
 (.region [zM 62 8, zI 63 (.fld 4 (zR 7)), zN (.store 1 (zR 63) (zR 62))]))) .skip)) (zQ [zI 64 (.load true 5 (zR 7)), zN (.store 5 (zR 2) (zR 64)), zI 3 (.mv (zK 0))] .ret)))))))))
theorem low34 : lowF Tryz.prog [] Tryz.f34 = some (65, lc34.strip, [.cell 2 true 5, .tmp 3]) := by kernel_rfl
theorem fn34 : FnOk Tryz.prog 34 65 lc34 [.cell 2 true 5, .tmp 3] := ⟨Tryz.call34, [], _, Tryz.func34, low34⟩
def lc35 : LCode :=
 (zQ [zI 2 (.mv (.const (.slice none 0 0))), zI 3 (.mv (zK 0))] (.seq (zQ [zM 6 0, zI 7 (.lenS (zR 6)), zI 8 (.bin .gtr (zR 7) (zK 60000))] (.cond (zR 8) (zQ [zI 2 (.mv (.const (.slice none 0 0))), zI 3 (.mv (zK 8))]
 .ret) .skip)) (.seq (zQ [zM 9 0, ⟨some 10, .eqS false (zR 9) (.const (.string ⟨#[]⟩)), none⟩] (.cond (zR 10) (zQ [zI 2 (.mv (.const (.slice none 0 0))), zI 3 (.mv (zK 0))] .ret) .skip)) (zQ [zM 12 0, zI 13 (zC 112 [(zR
 12), (zK 2)]), zM 11 13, zI 14 (.ext (zR 11) 0), zI 15 (.ext (zR 11) 1), zM 4 14, zM 5 15] (.seq (zQ [zM 16 5, zI 17 (.un .not (zR 16))] (.cond (zR 17) (zQ [zI 2 (.mv (.const (.slice none 0 0))), zI 3 (.mv (zK 7))] .ret)
 .skip)) (zQ [zM 18 4, zM 2 18, zI 3 (.mv (zK 0))] .ret))))))
theorem low35 : lowF Tryz.prog [] Tryz.f35 = some (19, lc35.strip, [.tmp 2, .tmp 3]) := by kernel_rfl
theorem fn35 : FnOk Tryz.prog 35 19 lc35 [.tmp 2, .tmp 3] := ⟨Tryz.call35, [], _, Tryz.func35, low35⟩
def lc43 : LCode :=
 (zQ [zI 2 (.boxS (zR 0)), zI 3 (.boxS (zR 1)), zI 4 (.mv (zB false))] (zQ [zI 5 (.fld 0 (zR 2)), zL 6 5, zI 7 (.fld 0 (zR 3)), zL 8 7, zI 9 (.bin .eql (zR 6) (zR 8)), zM 10 9, zT 11 10 (.fld 1 (zR 2)), zT 12 10 (.load
 false 1 (zR 11)), zT 13 10 (.fld 1 (zR 3)), zT 14 10 (.load false 1 (zR 13)), zT 15 10 (.bin .eql (zR 12) (zR 14)), zI 16 (.pick (zR 10) (zR 15) (zB false)), zM 17 16, zT 18 17 (.fld 2 (zR 2)), zT 19 17 (.load false 1
 (zR 18)), zT 20 17 (.fld 2 (zR 3)), zT 21 17 (.load false 1 (zR 20)), zT 22 17 (.bin .eql (zR 19) (zR 21)), zI 23 (.pick (zR 17) (zR 22) (zB false)), zM 24 23, zT 25 24 (.fld 3 (zR 2)), zT 26 24 (.load false 1 (zR 25)),
 zT 27 24 (.fld 3 (zR 3)), zT 28 24 (.load false 1 (zR 27)), zT 29 24 (.bin .eql (zR 26) (zR 28)), zI 30 (.pick (zR 24) (zR 29) (zB false)), zM 31 30, zT 32 31 (.fld 4 (zR 2)), zT 33 31 (.load false 1 (zR 32)), zT 34 31
 (.fld 4 (zR 3)), zT 35 31 (.load false 1 (zR 34)), zT 36 31 (zC 44 [(zR 33), (zR 35)]), zI 37 (.pick (zR 31) (zR 36) (zB false)), zM 4 37] .ret))
theorem low43 : lowF Tryz.prog [2, 3] Tryz.f43 = some (38, lc43.strip, [.tmp 4]) := by kernel_rfl
theorem fn43 : FnOk Tryz.prog 43 38 lc43 [.tmp 4] := ⟨Tryz.call43, [2, 3], _, Tryz.func43, low43⟩
def lc44 : LCode :=
 (zQ [zI 4 (.mv (zB false))] (.seq (zQ [zM 6 0, zI 7 (.len (zR 6)), zM 8 1, zI 9 (.len (zR 8)), zI 10 (.bin .neq (zR 7) (zR 9))] (.cond (zR 10) (zQ [zI 4 (.mv (zB false))] .ret) .skip)) (.seq (zQ [zI 5 (.mv (zK 0))]
 (.block 0 (.loop (.seq (zQ [zM 11 5, zM 12 0, zI 13 (.len (zR 12)), zI 14 (.bin .lss (zR 11) (zR 13))] (.cond (zR 14) .skip (.exit 0))) (.seq (.block 1 (.seq (.regionD [zM 17 0, zM 18 5, zI 19 (.idx 1 (zR 17) (zR 18)),
 zL 20 19, zM 21 1, zM 22 5, zI 23 (.idx 1 (zR 21) (zR 22)), zL 24 23, zI 25 (.bin .neq (zR 20) (zR 24))] [0, 0, 3, 7, 0, 0, 48, 112, 255] [0, 1, 2, 3, 4, 5, 6, 7, 8]) (.cond (zR 25) (zQ [zI 4 (.mv (zB false))] .ret)
 .skip))) (.region [zM 15 5, zI 16 (.bin .add (zR 15) (zK 1)), zM 5 16])))))) (zQ [zI 4 (.mv (zB true))] .ret))))
theorem low44 : lowF Tryz.prog [] Tryz.f44 = some (26, lc44.strip, [.tmp 4]) := by kernel_rfl
theorem fn44 : FnOk Tryz.prog 44 26 lc44 [.tmp 4] := ⟨Tryz.call44, [], _, Tryz.func44, low44⟩
def lc45 : LCode :=
 (zQ [zI 2 (.mv (zK 0)), zI 3 (.mv (zK 0))] (.seq (zQ [zM 8 0, zI 9 (.len (zR 8)), zI 10 (.bin .gtr (zR 9) (zK 6))] (.cond (zR 10) (zQ [zI 2 (.mv (zK 0)), zI 3 (.mv (zK 8))] .ret) .skip)) (.seq (zQ [zI 4 (.mv (zK 0))]
 (.block 0 (.loop (.seq (zQ [zM 11 4, zM 12 0, zI 13 (.len (zR 12)), zI 14 (.bin .lss (zR 11) (zR 13))] (.cond (zR 14) .skip (.exit 0))) (.seq (.block 1 (zQ [zM 17 0, zM 18 4, zI 19 (.idx 9 (zR 17) (zR 18)), zI 20 (.load
 true 9 (zR 19)), ⟨some 5, .alloc [(.string ⟨#[]⟩), (.int .i64 0), (.int .i64 0), (.int .i64 0), (.int .i64 0), (.int .i64 0), (.int .i64 0), (.int .i64 0), (.slice none 0 0)], none⟩, zN (.store 9 (zR 5) (zR 20))] (.seq
 (zQ [zI 21 (.fld 0 (zR 5)), zL 22 21, zI 23 (zC 117 [(zR 22)]), zI 24 (.un .not (zR 23))] (.cond (zR 24) (zQ [zM 25 4, zM 2 25, zI 3 (.mv (zK 4))] .ret) .skip)) (.seq (zQ [zI 6 (.mv (zK 0))] (.block 2 (.loop (.seq (zQ
 [zM 26 6, zM 27 4, zI 28 (.bin .lss (zR 26) (zR 27))] (.cond (zR 28) .skip (.exit 2))) (.seq (.block 3 (.seq (.regionD [zM 31 0, zM 32 6, zI 33 (.idx 9 (zR 31) (zR 32)), zI 34 (.fld 0 (zR 33)), zL 35 34, zI 36 (.fld 0
 (zR 5)), zL 37 36, zI 38 (.eqS false (zR 35) (zR 37))] [0, 0, 3, 7, 15, 0, 32, 127] [0, 1, 2, 3, 4, 5, 6, 7]) (.cond (zR 38) (zQ [zM 39 4, zM 2 39, zI 3 (.mv (zK 5))] .ret) .skip))) (.region [zM 29 6, zI 30 (.bin .add
 (zR 29) (zK 1)), zM 6 30])))))) (.seq (zQ [zI 40 (.fld 1 (zR 5)), zL 41 40, zI 42 (zC 46 [(zR 41), (zK 0), (zK 4)]), zI 43 (.un .not (zR 42)), zM 44 43, zF 45 44 (.fld 2 (zR 5)), zF 46 44 (.load false 1 (zR 45)), zF 47
 44 (zC 118 [(zR 46)]), zF 48 44 (.un .not (zR 47)), zI 49 (.pick (zR 44) (zB true) (zR 48)), zM 50 49, zF 51 50 (.fld 3 (zR 5)), zF 52 50 (.load false 1 (zR 51)), zF 53 50 (zC 118 [(zR 52)]), zF 54 50 (.un .not (zR 53)),
 zI 55 (.pick (zR 50) (zB true) (zR 54)), zM 56 55, zF 57 56 (.fld 4 (zR 5)), zF 58 56 (.load false 1 (zR 57)), zF 59 56 (zC 118 [(zR 58)]), zF 60 56 (.un .not (zR 59)), zI 61 (.pick (zR 56) (zB true) (zR 60)), zM 62 61,
 zF 63 62 (.fld 5 (zR 5)), zF 64 62 (.load false 1 (zR 63)), zF 65 62 (zC 118 [(zR 64)]), zF 66 62 (.un .not (zR 65)), zI 67 (.pick (zR 62) (zB true) (zR 66)), zM 68 67, zF 69 68 (.fld 6 (zR 5)), zF 70 68 (.fld 0 (zR
 69)), zF 71 68 (.load false 1 (zR 70)), zF 72 68 (zC 119 [(zR 71)]), zF 73 68 (.un .not (zR 72)), zI 74 (.pick (zR 68) (zB true) (zR 73)), zM 75 74, zF 76 75 (.fld 6 (zR 5)), zF 77 75 (.fld 1 (zR 76)), zF 78 75 (.load
 false 1 (zR 77)), zF 79 75 (zC 119 [(zR 78)]), zF 80 75 (.un .not (zR 79)), zI 81 (.pick (zR 75) (zB true) (zR 80))] (.cond (zR 81) (zQ [zM 82 4, zM 2 82, zI 3 (.mv (zK 2))] .ret) .skip)) (.seq (zQ [zI 83 (.fld 6 (zR
 5)), zI 84 (.fld 0 (zR 83)), zL 85 84, zI 86 (.fld 6 (zR 5)), zI 87 (.fld 1 (zR 86)), zL 88 87, zI 89 (.bin .gtr (zR 85) (zR 88))] (.cond (zR 89) (zQ [zM 90 4, zM 2 90, zI 3 (.mv (zK 9))] .ret) .skip)) (zQ [zI 7 (.mv (zK
 0))] (.block 4 (.loop (.seq (zQ [zM 91 7, zI 92 (.fld 8 (zR 5)), zL 93 92, zI 94 (.len (zR 93)), zI 95 (.bin .lss (zR 91) (zR 94))] (.cond (zR 95) .skip (.exit 4))) (.seq (.block 5 (.seq (zQ [zI 98 (.fld 8 (zR 5)), zL 99
 98, zM 100 7, zI 101 (.idx 1 (zR 99) (zR 100)), zL 102 101, zM 103 4, zI 104 (.bin .sub (zR 103) (zK 1)), zI 105 (zC 46 [(zR 102), (zK 0), (zR 104)]), zI 106 (.un .not (zR 105))] (.cond (zR 106) (zQ [zM 107 4, zM 2 107,
 zI 3 (.mv (zK 6))] .ret) .skip)) (.seq (.regionD [zM 108 7, zI 109 (.bin .gtr (zR 108) (zK 0)), zM 110 109, zT 111 110 (.fld 8 (zR 5)), zT 112 110 (.load false 1 (zR 111)), zT 113 110 (.mv (zR 7)), zT 114 110 (.idx 1 (zR
 112) (zR 113)), zT 115 110 (.load false 1 (zR 114)), zT 116 110 (.fld 8 (zR 5)), zT 117 110 (.load false 1 (zR 116)), zT 118 110 (.mv (zR 7)), zT 119 110 (.bin .sub (zR 118) (zK 1)), zT 120 110 (.idx 1 (zR 117) (zR
 119)), zT 121 110 (.load false 1 (zR 120)), zT 122 110 (.bin .leq (zR 115) (zR 121)), zI 123 (.pick (zR 110) (zR 122) (zB false))] [0, 1, 3, 7, 15, 7, 63, 127, 7, 263, 7, 1031, 3847, 7943, 16383, 32767] [0, 1, 2, 3, 4,
 5, 6, 7, 8, 9, 10, 11, 12, 13, 14, 15]) (.cond (zR 123) (zQ [zM 124 4, zM 2 124, zI 3 (.mv (zK 9))] .ret) .skip)))) (.region [zM 96 7, zI 97 (.bin .add (zR 96) (zK 1)), zM 7 97])))))))))))) (.region [zM 15 4, zI 16 (.bin
 .add (zR 15) (zK 1)), zM 4 16])))))) (zQ [zI 2 (.mv (zK 0)), zI 3 (.mv (zK 0))] .ret))))
theorem low45 : lowF Tryz.prog [] Tryz.f45 = some (125, lc45.strip, [.tmp 2, .tmp 3]) := by kernel_rfl
theorem fn45 : FnOk Tryz.prog 45 125 lc45 [.tmp 2, .tmp 3] := ⟨Tryz.call45, [], _, Tryz.func45, low45⟩
def lc46 : LCode :=
 (zQ [zI 6 (.mv (zB false))] (zQ [zM 7 1, zM 8 0, zI 9 (.bin .leq (zR 7) (zR 8)), zM 10 9, zT 11 10 (.mv (zR 0)), zT 12 10 (.mv (zR 2)), zT 13 10 (.bin .leq (zR 11) (zR 12)), zI 14 (.pick (zR 10) (zR 13) (zB false)), zM 6
 14] .ret))
theorem low46 : lowF Tryz.prog [] Tryz.f46 = some (15, lc46.strip, [.tmp 6]) := by kernel_rfl
theorem fn46 : FnOk Tryz.prog 46 15 lc46 [.tmp 6] := ⟨Tryz.call46, [], _, Tryz.func46, low46⟩
def lc58 : LCode :=
 (zQ [zI 0 (.mv (zB false))] (zQ [zI 7 (zC 107 []), zI 8 (zC 108 []), zI 9 (zC 64 [(zR 7), (zR 8)]), zM 6 9, zI 10 (.ext (zR 6) 0), zI 11 (.ext (zR 6) 1), zI 12 (.ext (zR 6) 2), zM 1 10, zM 2 11, zM 3 12] (zQ [zI 14 (zC
 107 []), zI 15 (.lit false 3 1 [(zK 0)]), zI 16 (.build [(.int .i64 0), (.int .i64 0), (.int .i64 0), (.int .i64 0), (.slice none 0 0)] [(0, 1, (zK 1)), (1, 1, (zK 30)), (2, 1, (zK 250)), (3, 1, (zK 2)), (4, 1, (zR
 15))]), zI 17 (zC 76 [(zR 14), (zR 16)]), zM 13 17, zI 18 (.ext (zR 13) 0), zI 19 (.ext (zR 13) 1), zM 4 18, zM 5 19] (zQ [zM 20 3, zI 21 (.bin .eql (zR 20) (zK 0)), zM 22 21, zT 23 22 (.mv (zR 1)), zT 24 22 (.lit false
 3 1 [(zK 0), (zK 2)]), zT 25 22 (zC 44 [(zR 23), (zR 24)]), zI 26 (.pick (zR 22) (zR 25) (zB false)), zM 27 26, zT 28 27 (.mv (zR 2)), zT 29 27 (.bin .eql (zR 28) (zK 90)), zI 30 (.pick (zR 27) (zR 29) (zB false)), zM 31
 30, zT 32 31 (.mv (zR 5)), zT 33 31 (.bin .eql (zR 32) (zK 0)), zI 34 (.pick (zR 31) (zR 33) (zB false)), zM 35 34, zT 36 35 (.mv (zR 4)), zT 37 35 (.bin .eql (zR 36) (zK 170)), zI 38 (.pick (zR 35) (zR 37) (zB false)),
 zM 0 38] .ret))))
theorem low58 : lowF Tryz.prog [] Tryz.f58 = some (39, lc58.strip, [.tmp 0]) := by kernel_rfl
theorem fn58 : FnOk Tryz.prog 58 39 lc58 [.tmp 0] := ⟨Tryz.call58, [], _, Tryz.func58, low58⟩
def lc59 : LCode :=
 (zQ [zI 1 (.boxS (zR 0)), zI 2 (.mv (zB false))] (.seq (zQ [zI 4 (.fld 0 (zR 1)), zL 5 4, zI 6 (zC 25 [(zR 5)]), zI 7 (.un .not (zR 6)), zM 8 7, zF 9 8 (.fld 2 (zR 1)), zF 10 8 (.load false 1 (zR 9)), zF 11 8 (.len (zR
 10)), zF 12 8 (.bin .gtr (zR 11) (zK 7)), zI 13 (.pick (zR 8) (zB true) (zR 12)), zM 14 13, zF 15 14 (.fld 1 (zR 1)), zF 16 14 (.load false 1 (zR 15)), zF 17 14 (.len (zR 16)), zF 18 14 (.bin .gtr (zR 17) (zK 7)), zI 19
 (.pick (zR 14) (zB true) (zR 18)), zM 20 19, zF 21 20 (.fld 3 (zR 1)), zF 22 20 (.load false 1 (zR 21)), zF 23 20 (.len (zR 22)), zF 24 20 (.bin .gtr (zR 23) (zK 8)), zI 25 (.pick (zR 20) (zB true) (zR 24))] (.cond (zR
 25) (zQ [zI 2 (.mv (zB false))] .ret) .skip)) (.seq (zQ [zI 3 (.mv (zK 0))] (.block 0 (.loop (.seq (zQ [zM 26 3, zI 27 (.fld 1 (zR 1)), zL 28 27, zI 29 (.len (zR 28)), zI 30 (.bin .lss (zR 26) (zR 29))] (.cond (zR 30)
 .skip (.exit 0))) (.seq (.block 1 (zQ [zI 33 (.fld 1 (zR 1)), zL 34 33, zM 35 3, zI 36 (.idx 1 (zR 34) (zR 35)), zL 37 36, zI 38 (.len (zR 37)), zI 39 (.bin .gtr (zR 38) (zK 7))] (.cond (zR 39) (zQ [zI 2 (.mv (zB
 false))] .ret) .skip))) (.region [zM 31 3, zI 32 (.bin .add (zR 31) (zK 1)), zM 3 32])))))) (zQ [zI 2 (.mv (zB true))] .ret))))
theorem low59 : lowF Tryz.prog [1] Tryz.f59 = some (40, lc59.strip, [.tmp 2]) := by kernel_rfl
theorem fn59 : FnOk Tryz.prog 59 40 lc59 [.tmp 2] := ⟨Tryz.call59, [1], _, Tryz.func59, low59⟩
def lc60 : LCode :=
 (zQ [zI 1 (.boxS (zR 0)), zI 2 (.mv (zK 0))] (zQ [zI 6 (.load true 8 (zR 1)), zI 7 (zC 138 [(zR 6)]), zM 5 7, zI 8 (.ext (zR 5) 0), zI 9 (.ext (zR 5) 1), zM 3 8, zM 4 9] (zQ [zM 10 4, zM 2 10] .ret)))
theorem low60 : lowF Tryz.prog [1] Tryz.f60 = some (11, lc60.strip, [.tmp 2]) := by kernel_rfl
theorem fn60 : FnOk Tryz.prog 60 11 lc60 [.tmp 2] := ⟨Tryz.call60, [1], _, Tryz.func60, low60⟩
def lc61 : LCode :=
 (zQ [zI 2 (.boxS (zR 0)), zI 3 (.boxS (zR 1)), zI 4 (.mv (zK 0))] (zQ [zI 8 (.load true 8 (zR 2)), zI 9 (.load true 5 (zR 3)), zI 10 (zC 139 [(zR 8), (zR 9)]), zM 7 10, zI 11 (.ext (zR 7) 0), zI 12 (.ext (zR 7) 1), zM 5
 11, zM 6 12] (zQ [zM 13 6, zM 4 13] .ret)))
theorem low61 : lowF Tryz.prog [2, 3] Tryz.f61 = some (14, lc61.strip, [.tmp 4]) := by kernel_rfl
theorem fn61 : FnOk Tryz.prog 61 14 lc61 [.tmp 4] := ⟨Tryz.call61, [2, 3], _, Tryz.func61, low61⟩
def lc62 : LCode :=
 (zQ [zI 2 (.boxS (zR 0)), zI 3 (.boxS (zR 1)), zI 4 (.mv (zB false))] (zQ [zI 6 (.load true 8 (zR 2)), zI 7 (.load true 5 (zR 3)), zI 8 (zC 140 [(zR 6), (zR 7)]), zI 5 (.alloc [(.int .i64 0), (.int .i64 0)]), zN (.store
 2 (zR 5) (zR 8))] (zQ [zI 9 (.fld 2 (zR 3)), zL 10 9, zI 11 (.fld 1 (zR 5)), zL 12 11, zI 13 (.bin .sub (zR 10) (zR 12)), zI 14 (.fld 6 (zR 2)), zL 15 14, zI 16 (.bin .geq (zR 13) (zR 15)), zM 17 16, zT 18 17 (.fld 1 (zR
 3)), zT 19 17 (.load false 1 (zR 18)), zT 20 17 (.fld 0 (zR 5)), zT 21 17 (.load false 1 (zR 20)), zT 22 17 (.bin .add (zR 19) (zR 21)), zT 23 17 (.fld 7 (zR 2)), zT 24 17 (.load false 1 (zR 23)), zT 25 17 (.bin .leq (zR
 22) (zR 24)), zI 26 (.pick (zR 17) (zR 25) (zB false)), zM 4 26] .ret)))
theorem low62 : lowF Tryz.prog [2, 3] Tryz.f62 = some (27, lc62.strip, [.tmp 4]) := by kernel_rfl
theorem fn62 : FnOk Tryz.prog 62 27 lc62 [.tmp 4] := ⟨Tryz.call62, [2, 3], _, Tryz.func62, low62⟩
def lc64 : LCode :=
 (zQ [zI 2 (.boxS (zR 0)), zI 3 (.boxS (zR 1)), zI 4 (.mv (.const (.slice none 0 0))), zI 5 (.mv (zK 0)), zI 6 (.mv (zK 0))] (zQ [zI 12 (.load true 8 (zR 2)), zI 13 (.load true 5 (zR 3)), zI 14 (zC 141 [(zR 12), (zR
 13)]), zM 11 14, zI 15 (.ext (zR 11) 0), zI 16 (.ext (zR 11) 1), zI 7 (.alloc [(.slice none 0 0), (.slice none 0 0), (.slice none 0 0), (.slice none 0 0), (.int .i64 0), (.int .i64 0), (.int .i64 0), (.int .i64 0), (.int
 .i64 0), (.int .i64 0), (.int .i64 0), (.int .i64 0), (.slice none 0 0)]), zN (.store 13 (zR 7) (zR 15)), zM 8 16] (.seq (zQ [zM 17 8, zI 18 (.bin .neq (zR 17) (zK 0))] (.cond (zR 18) (zQ [zM 19 8, zI 4 (.mv (.const
 (.slice none 0 0))), zI 5 (.mv (zK 0)), zM 6 19] .ret) .skip)) (zQ [zI 21 (.load true 13 (zR 7)), zI 22 (zC 142 [(zR 21), (.func 143)]), zM 20 22, zI 23 (.ext (zR 20) 0), zI 24 (.ext (zR 20) 1), zM 9 23, zM 10 24] (zQ
 [zM 25 9, zM 26 10, zM 4 25, zM 5 26, zI 6 (.mv (zK 0))] .ret)))))
theorem low64 : lowF Tryz.prog [2, 3] Tryz.f64 = some (27, lc64.strip, [.tmp 4, .tmp 5, .tmp 6]) := by kernel_rfl
theorem fn64 : FnOk Tryz.prog 64 27 lc64 [.tmp 4, .tmp 5, .tmp 6] := ⟨Tryz.call64, [2, 3], _, Tryz.func64, low64⟩
def lc73 : LCode :=
 (zQ [zI 3 (.boxS (zR 0)), zI 4 (.boxS (zR 1)), zI 6 (.mv (zK 0)), zI 7 (.mv (zK 0))] (zQ [zI 12 (.load true 8 (zR 3)), zI 13 (.load true 5 (zR 4)), zI 14 (zC 156 [(zR 12), (zR 13)]), zM 11 14, zI 15 (.ext (zR 11) 0), zI
 16 (.ext (zR 11) 1), zI 8 (.alloc [(.slice none 0 0), (.slice none 0 0), (.slice none 0 0), (.slice none 0 0), (.int .i64 0), (.int .i64 0), (.int .i64 0), (.int .i64 0), (.int .i64 0), (.int .i64 0), (.int .i64 0),
 (.int .i64 0), (.slice none 0 0)]), zN (.store 13 (zR 8) (zR 15)), zM 9 16] (.seq (zQ [zM 17 9, zI 18 (.bin .neq (zR 17) (zK 0))] (.cond (zR 18) (zQ [zM 19 9, zI 6 (.mv (zK 0)), zM 7 19] .ret) .skip)) (zQ [zI 21 (.load
 true 13 (zR 8)), zM 22 2, zI 23 (zC 162 [(zR 21), (zR 22)]), zM 20 23, zI 24 (.ext (zR 20) 0), zI 25 (.ext (zR 20) 1), zM 10 24, zM 9 25] (.seq (zQ [zM 26 9, zI 27 (.bin .neq (zR 26) (zK 0))] (.cond (zR 27) (zQ [zM 28
 10, zI 29 (.len (zR 28)), zI 30 (.bin .sub (zR 29) (zK 1)), zM 31 9, zM 6 30, zM 7 31] .ret) .skip)) (zQ [zI 32 (.load true 8 (zR 3)), zM 33 2, zI 34 (zC 163 [(zR 32), (zR 33)]), zM 6 34, zI 7 (.mv (zK 0))] .ret))))))
theorem low73 : lowF Tryz.prog [3, 4] Tryz.f73 = some (35, lc73.strip, [.tmp 6, .tmp 7]) := by kernel_rfl
theorem fn73 : FnOk Tryz.prog 73 35 lc73 [.tmp 6, .tmp 7] := ⟨Tryz.call73, [3, 4], _, Tryz.func73, low73⟩
def lc74 : LCode :=
 (zQ [zI 3 (.boxS (zR 0)), zI 4 (.boxS (zR 1)), zI 6 (.mv (.const (.slice none 0 0))), zI 7 (.mv (zK 0))] (zQ [zI 16 (.load true 8 (zR 3)), zI 17 (.load true 5 (zR 4)), zI 18 (zC 156 [(zR 16), (zR 17)]), zM 15 18, zI 19
 (.ext (zR 15) 0), zI 20 (.ext (zR 15) 1), zI 8 (.alloc [(.slice none 0 0), (.slice none 0 0), (.slice none 0 0), (.slice none 0 0), (.int .i64 0), (.int .i64 0), (.int .i64 0), (.int .i64 0), (.int .i64 0), (.int .i64
 0), (.int .i64 0), (.int .i64 0), (.slice none 0 0)]), zN (.store 13 (zR 8) (zR 19)), zM 9 20] (.seq (zQ [zM 21 9, zI 22 (.bin .neq (zR 21) (zK 0))] (.cond (zR 22) (zQ [zM 23 9, zI 6 (.mv (.const (.slice none 0 0))), zM
 7 23] .ret) .skip)) (zQ [zI 25 (.load true 13 (zR 8)), zM 26 2, zI 27 (zC 162 [(zR 25), (zR 26)]), zM 24 27, zI 28 (.ext (zR 24) 0), zI 29 (.ext (zR 24) 1), zM 10 28, zM 9 29] (.seq (zQ [zM 30 9, zI 31 (.bin .neq (zR 30)
 (zK 0))] (.cond (zR 31) (zQ [zM 32 9, zI 6 (.mv (.const (.slice none 0 0))), zM 7 32] .ret) .skip)) (zQ [zI 11 (.mv (.const (.slice none 0 0)))] (.seq (zQ [zM 33 10, zI 34 (.len (zR 33)), zI 35 (.mv (zK 0))] (.block 0
 (.loop (zQ [zI 36 (.bin .lss (zR 35) (zR 34))] (.seq (.cond (zR 36) .skip (.exit 0)) (.seq (.block 1 (zQ [zI 37 (.idx 13 (zR 33) (zR 35)), zI 38 (.load true 13 (zR 37)), zI 13 (.alloc [(.slice none 0 0), (.slice none 0
 0), (.slice none 0 0), (.slice none 0 0), (.int .i64 0), (.int .i64 0), (.int .i64 0), (.int .i64 0), (.int .i64 0), (.int .i64 0), (.int .i64 0), (.int .i64 0), (.slice none 0 0)]), zN (.store 13 (zR 13) (zR 38))] (zQ
 [zI 39 (.fld 8 (zR 13)), zI 40 (.load true 5 (zR 39)), zI 14 (.alloc [(.int .i64 0), (.int .i64 0), (.int .i64 0), (.int .i64 0), (.slice none 0 0)]), zN (.store 5 (zR 14) (zR 40))] (zQ [zI 41 (.fld 4 (zR 14)), zL 42 41,
 zI 43 (zC 164 [(zR 42)]), zI 44 (.fld 4 (zR 14)), zN (.store 1 (zR 44) (zR 43))] (.region [zM 45 11, zI 46 (.load true 5 (zR 14)), zI 47 (.lit false 51 5 [(zR 46)]), zI 48 (.append true 51 5 56 (zR 45) (zR 47)), zM 11
 48]))))) (.region [zI 49 (.bin .add (zR 35) (zK 1)), zM 35 49]))))))) (zQ [zM 50 11, zM 6 50, zI 7 (.mv (zK 0))] .ret))))))))
theorem low74 : lowF Tryz.prog [3, 4, 48] Tryz.f74 = some (51, lc74.strip, [.tmp 6, .tmp 7]) := by kernel_rfl
theorem fn74 : FnOk Tryz.prog 74 51 lc74 [.tmp 6, .tmp 7] := ⟨Tryz.call74, [3, 4, 48], _, Tryz.func74, low74⟩
def lc75 : LCode :=
 (zQ [zI 2 (.boxS (zR 0)), zI 3 (.boxS (zR 1)), zI 4 (.mv (zB false)), zI 5 (.mv (zK 0))] (zQ [zI 9 (.load true 8 (zR 2)), zI 10 (.load true 5 (zR 3)), zI 11 (zC 156 [(zR 9), (zR 10)]), zM 8 11, zI 12 (.ext (zR 8) 0), zI
 13 (.ext (zR 8) 1), zI 6 (.alloc [(.slice none 0 0), (.slice none 0 0), (.slice none 0 0), (.slice none 0 0), (.int .i64 0), (.int .i64 0), (.int .i64 0), (.int .i64 0), (.int .i64 0), (.int .i64 0), (.int .i64 0), (.int
 .i64 0), (.slice none 0 0)]), zN (.store 13 (zR 6) (zR 12)), zM 7 13] (zQ [zM 14 7, zI 15 (.bin .eql (zR 14) (zK 0)), zM 16 15, zT 17 16 (.load true 13 (zR 6)), zT 18 16 (zC 165 [(zR 17)]), zI 19 (.pick (zR 16) (zR 18)
 (zB false)), zM 20 7, zM 4 19, zM 5 20] .ret)))
theorem low75 : lowF Tryz.prog [2, 3] Tryz.f75 = some (21, lc75.strip, [.tmp 4, .tmp 5]) := by kernel_rfl
theorem fn75 : FnOk Tryz.prog 75 21 lc75 [.tmp 4, .tmp 5] := ⟨Tryz.call75, [2, 3], _, Tryz.func75, low75⟩
def lc76 : LCode :=
 (zQ [zI 2 (.boxS (zR 0)), zI 3 (.boxS (zR 1)), zI 4 (.mv (zK 0)), zI 5 (.mv (zK 0))] (zQ [zI 10 (.load true 8 (zR 2)), zI 11 (.load true 5 (zR 3)), zI 12 (zC 156 [(zR 10), (zR 11)]), zM 9 12, zI 13 (.ext (zR 9) 0), zI 14
 (.ext (zR 9) 1), zI 6 (.alloc [(.slice none 0 0), (.slice none 0 0), (.slice none 0 0), (.slice none 0 0), (.int .i64 0), (.int .i64 0), (.int .i64 0), (.int .i64 0), (.int .i64 0), (.int .i64 0), (.int .i64 0), (.int
 .i64 0), (.slice none 0 0)]), zN (.store 13 (zR 6) (zR 13)), zM 7 14] (.seq (zQ [zM 15 7, zI 16 (.bin .neq (zR 15) (zK 0))] (.cond (zR 16) (zQ [zM 17 7, zI 4 (.mv (zK 0)), zM 5 17] .ret) .skip)) (.seq (zQ [zI 18 (.fld 0
 (zR 6)), zI 19 (.fld 7 (zR 18)), zL 20 19, zM 8 20] (.block 0 (.loop (.seq (zQ [zM 21 8, zI 22 (.fld 8 (zR 6)), zI 23 (.fld 1 (zR 22)), zL 24 23, zI 25 (.bin .geq (zR 21) (zR 24))] (.cond (zR 25) .skip (.exit 0))) (.seq
 (.block 1 (zQ [zI 28 (.load true 13 (zR 6)), zM 29 8, zI 30 (zC 166 [(zR 28), (zR 29)]), zI 31 (zC 165 [(zR 30)])] (.cond (zR 31) (zQ [zM 32 8, zM 4 32, zI 5 (.mv (zK 0))] .ret) .skip))) (.region [zM 26 8, zI 27 (.bin
 .sub (zR 26) (zK 1)), zM 8 27])))))) (zQ [zI 4 (.mv (zK 0)), zI 5 (.mv (zK 12))] .ret)))))
theorem low76 : lowF Tryz.prog [2, 3] Tryz.f76 = some (33, lc76.strip, [.tmp 4, .tmp 5]) := by kernel_rfl
theorem fn76 : FnOk Tryz.prog 76 33 lc76 [.tmp 4, .tmp 5] := ⟨Tryz.call76, [2, 3], _, Tryz.func76, low76⟩
def lc77 : LCode :=
 (zQ [zI 2 (.boxS (zR 0)), zI 3 (.boxS (zR 1)), zI 4 (.alloc [(.int .i64 0), (.int .i64 0)]), zI 5 (.mv (zK 0))] (zQ [zI 9 (.load true 8 (zR 2)), zI 10 (.load true 5 (zR 3)), zI 11 (zC 156 [(zR 9), (zR 10)]), zM 8 11, zI
 12 (.ext (zR 8) 0), zI 13 (.ext (zR 8) 1), zI 6 (.alloc [(.slice none 0 0), (.slice none 0 0), (.slice none 0 0), (.slice none 0 0), (.int .i64 0), (.int .i64 0), (.int .i64 0), (.int .i64 0), (.int .i64 0), (.int .i64
 0), (.int .i64 0), (.int .i64 0), (.slice none 0 0)]), zN (.store 13 (zR 6) (zR 12)), zM 7 13] (.seq (zQ [zM 14 7, zI 15 (.bin .neq (zR 14) (zK 0))] (.cond (zR 15) (zQ [zI 16 (.build [(.int .i64 0), (.int .i64 0)] []),
 zM 17 7, zN (.store 2 (zR 4) (zR 16)), zM 5 17] .ret) .skip)) (zQ [zI 18 (.load true 13 (zR 6)), zI 19 (zC 167 [(zR 18)]), zN (.store 2 (zR 4) (zR 19)), zI 5 (.mv (zK 0))] .ret))))
theorem low77 : lowF Tryz.prog [2, 3] Tryz.f77 = some (20, lc77.strip, [.cell 4 true 2, .tmp 5]) := by kernel_rfl
theorem fn77 : FnOk Tryz.prog 77 20 lc77 [.cell 4 true 2, .tmp 5] := ⟨Tryz.call77, [2, 3], _, Tryz.func77, low77⟩
def lc79 : LCode :=
 (zQ [zI 2 (.boxS (zR 0)), zI 4 (.mv (.const (.slice none 0 0))), zI 5 (.mv (zK 0))] (zQ [zI 12 (.load true 8 (zR 2)), zI 13 (zC 171 [(zR 12)]), zM 11 13, zI 14 (.ext (zR 11) 0), zI 15 (.ext (zR 11) 1), zM 6 14, zM 7 15]
 (.seq (zQ [zM 16 7, zM 17 1, zI 18 (.fld 0 (zR 2)), zL 19 18, zI 20 (.len (zR 19)), zI 21 (.bin .sub (zR 20) (zK 1)), zI 22 (zC 168 [(zR 17), (zK 0), (zR 21)]), zI 23 (zC 152 [(zR 22), (zK 6)]), zI 24 (.lit false 34 1
 [(zR 16), (zR 23)]), zI 25 (zC 151 [(zR 24)]), zM 7 25] (zQ [zM 26 7, zI 27 (.bin .neq (zR 26) (zK 0))] (.cond (zR 27) (zQ [zM 28 7, zI 4 (.mv (.const (.slice none 0 0))), zM 5 28] .ret) .skip))) (zQ [zI 8 (.mv (.const
 (.slice none 0 0)))] (.seq (zQ [zI 29 (.load true 8 (zR 2)), zM 30 1, zI 31 (zC 169 [(zR 29), (zR 30)]), zI 32 (.len (zR 31)), zI 33 (.mv (zK 0))] (.block 0 (.loop (zQ [zI 34 (.bin .lss (zR 33) (zR 32))] (.seq (.cond (zR
 34) .skip (.exit 0)) (.seq (.block 1 (zQ [zM 35 33, zI 36 (.idx 1 (zR 31) (zR 33)), zL 37 36, zM 9 35, zM 10 37] (zQ [zM 38 10] (.cond (zR 38) (.region [zM 39 8, zM 40 9, zI 41 (.lit false 3 1 [(zR 40)]), zI 42 (.append
 true 3 1 8 (zR 39) (zR 41)), zM 8 42]) .skip)))) (.region [zI 43 (.bin .add (zR 33) (zK 1)), zM 33 43]))))))) (zQ [zM 44 8, zM 4 44, zI 5 (.mv (zK 0))] .ret))))))
theorem low79 : lowF Tryz.prog [2, 42] Tryz.f79 = some (45, lc79.strip, [.tmp 4, .tmp 5]) := by kernel_rfl
theorem fn79 : FnOk Tryz.prog 79 45 lc79 [.tmp 4, .tmp 5] := ⟨Tryz.call79, [2, 42], _, Tryz.func79, low79⟩
def lc80 : LCode :=
 (zQ [zI 4 (.mv (zB false))] (.seq (zQ [zI 5 (.mv (zK 0))] (.block 0 (.loop (.seq (zQ [zM 6 5, zM 7 0, zI 8 (.len (zR 7)), zI 9 (.bin .lss (zR 6) (zR 8))] (.cond (zR 9) .skip (.exit 0))) (.seq (.block 1 (zQ [zM 12 0, zM
 13 5, zI 14 (.idx 1 (zR 12) (zR 13)), zL 15 14, zM 16 1, zI 17 (.bin .eql (zR 15) (zR 16))] (.cond (zR 17) (zQ [zI 4 (.mv (zB true))] .ret) .skip))) (.region [zM 10 5, zI 11 (.bin .add (zR 10) (zK 1)), zM 5 11])))))) (zQ
 [zI 4 (.mv (zB false))] .ret)))
theorem low80 : lowF Tryz.prog [] Tryz.f80 = some (18, lc80.strip, [.tmp 4]) := by kernel_rfl
theorem fn80 : FnOk Tryz.prog 80 18 lc80 [.tmp 4] := ⟨Tryz.call80, [], _, Tryz.func80, low80⟩
def lc81 : LCode :=
 (zQ [zI 1 (.boxS (zR 0)), zI 2 (.mv (zK 0))] (.seq (zQ [zI 3 (.fld 0 (zR 1)), zI 4 (.fld 0 (zR 3)), zL 5 4, zI 6 (zC 119 [(zR 5)]), zI 7 (.un .not (zR 6)), zM 8 7, zF 9 8 (.fld 0 (zR 1)), zF 10 8 (.fld 1 (zR 9)), zF 11 8
 (.load false 1 (zR 10)), zF 12 8 (zC 119 [(zR 11)]), zF 13 8 (.un .not (zR 12)), zI 14 (.pick (zR 8) (zB true) (zR 13)), zM 15 14, zF 16 15 (.fld 2 (zR 1)), zF 17 15 (.load false 1 (zR 16)), zF 18 15 (zC 46 [(zR 17), (zK
 1), (zK 6)]), zF 19 15 (.un .not (zR 18)), zI 20 (.pick (zR 15) (zB true) (zR 19)), zM 21 20, zF 22 21 (.fld 3 (zR 1)), zF 23 21 (.load false 1 (zR 22)), zF 24 21 (zC 46 [(zR 23), (zK 1), (zK 10000)]), zF 25 21 (.un .not
 (zR 24)), zI 26 (.pick (zR 21) (zB true) (zR 25)), zM 27 26, zF 28 27 (.fld 4 (zR 1)), zF 29 27 (.load false 1 (zR 28)), zF 30 27 (zC 118 [(zR 29)]), zF 31 27 (.un .not (zR 30)), zI 32 (.pick (zR 27) (zB true) (zR 31))]
 (.cond (zR 32) (zQ [zI 2 (.mv (zK 2))] .ret) .skip)) (.seq (zQ [zI 33 (.fld 0 (zR 1)), zI 34 (.fld 0 (zR 33)), zL 35 34, zI 36 (.fld 0 (zR 1)), zI 37 (.fld 1 (zR 36)), zL 38 37, zI 39 (.bin .gtr (zR 35) (zR 38))] (.cond
 (zR 39) (zQ [zI 2 (.mv (zK 9))] .ret) .skip)) (zQ [zI 2 (.mv (zK 0))] .ret))))
theorem low81 : lowF Tryz.prog [1] Tryz.f81 = some (40, lc81.strip, [.tmp 2]) := by kernel_rfl
theorem fn81 : FnOk Tryz.prog 81 40 lc81 [.tmp 2] := ⟨Tryz.call81, [1], _, Tryz.func81, low81⟩
def lc82 : LCode :=
 (zQ [zI 1 (.boxS (zR 0)), zI 2 (.mv (.const (.slice none 0 0))), zI 3 (.mv (zK 0))] (.seq (zQ [zI 10 (.load true 5 (zR 1)), zI 11 (zC 172 [(zR 10)]), zM 4 11] (zQ [zM 12 4, zI 13 (.bin .neq (zR 12) (zK 0))] (.cond (zR
 13) (zQ [zM 14 4, zI 2 (.mv (.const (.slice none 0 0))), zM 3 14] .ret) .skip))) (.seq (zQ [zI 15 (.fld 0 (zR 1)), zI 16 (.fld 1 (zR 15)), zL 17 16, zI 18 (.fld 0 (zR 1)), zI 19 (.fld 0 (zR 18)), zL 20 19, zI 21 (.bin
 .sub (zR 17) (zR 20)), zI 22 (.bin .add (zR 21) (zK 1)), zI 23 (.fld 3 (zR 1)), zL 24 23, zI 25 (.bin .mul (zK 40) (zR 24)), zI 26 (.bin .gtr (zR 22) (zR 25))] (.cond (zR 26) (zQ [zI 2 (.mv (.const (.slice none 0 0))),
 zI 3 (.mv (zK 8))] .ret) .skip)) (zQ [zI 5 (.mv (.const (.slice none 0 0)))] (.seq (zQ [zI 27 (.fld 0 (zR 1)), zI 28 (.fld 0 (zR 27)), zL 29 28, zM 6 29] (.block 0 (.loop (.seq (zQ [zM 30 6, zI 31 (.fld 0 (zR 1)), zI 32
 (.fld 1 (zR 31)), zL 33 32, zI 34 (.bin .leq (zR 30) (zR 33))] (.cond (zR 34) .skip (.exit 0))) (.seq (.block 1 (.seq (.regionD [zM 39 5, zI 40 (.len (zR 39)), zI 41 (.fld 2 (zR 1)), zL 42 41, zI 43 (.bin .rem (zR 40)
 (zR 42)), zM 44 6, zI 45 (.fld 0 (zR 1)), zI 46 (.fld 1 (zR 45)), zL 47 46, zM 48 6, zI 49 (.fld 3 (zR 1)), zL 50 49, zI 51 (.bin .add (zR 48) (zR 50)), zI 52 (.bin .sub (zR 51) (zK 1)), zI 53 (.mm false [(zR 47), (zR
 52)]), zI 54 (.build [(.int .i64 0), (.int .i64 0)] [(0, 1, (zR 44)), (1, 1, (zR 53))]), zI 55 (.build [(.int .i64 0), (.int .i64 0), (.int .i64 0)] [(0, 1, (zR 43)), (1, 2, (zR 54))]), zI 7 (.alloc [(.int .i64 0), (.int
 .i64 0), (.int .i64 0)]), zN (.store 3 (zR 7) (zR 55))] [0, 1, 0, 4, 15, 0, 0, 64, 192, 0, 0, 1024, 3584, 7680, 16320, 32736, 65535, 0, 262143] [0, 1, 2, 3, 4, 5, 6, 7, 8, 9, 10, 11, 12, 13, 14, 15, 16, 17, 18]) (.seq
 (zQ [zM 57 5, zI 58 (.load true 3 (zR 7)), zI 59 (zC 173 [(zR 57), (zR 58)]), zM 56 59, zI 60 (.ext (zR 56) 0), zI 61 (.ext (zR 56) 1), zM 8 60, zM 9 61] (zQ [zM 62 9, zM 63 62, zT 64 63 (.mv (zR 8)), zT 65 63 (.fld 4
 (zR 1)), zT 66 63 (.load false 1 (zR 65)), zT 67 63 (.bin .lss (zR 64) (zR 66)), zI 68 (.pick (zR 63) (zR 67) (zB false))] (.cond (zR 68) (zQ [zI 2 (.mv (.const (.slice none 0 0))), zI 3 (.mv (zK 24))] .ret) .skip)))
 (.region [zM 69 5, zI 70 (.load true 3 (zR 7)), zI 71 (.lit false 145 3 [(zR 70)]), zI 72 (.append true 145 3 24 (zR 69) (zR 71)), zM 5 72])))) (.region [zM 35 6, zI 36 (.fld 3 (zR 1)), zL 37 36, zI 38 (.bin .add (zR 35)
 (zR 37)), zM 6 38])))))) (zQ [zM 73 5, zM 2 73, zI 3 (.mv (zK 0))] .ret))))))
theorem low82 : lowF Tryz.prog [1, 72] Tryz.f82 = some (74, lc82.strip, [.tmp 2, .tmp 3]) := by kernel_rfl
theorem fn82 : FnOk Tryz.prog 82 74 lc82 [.tmp 2, .tmp 3] := ⟨Tryz.call82, [1, 72], _, Tryz.func82, low82⟩
def lc83 : LCode :=
 (zQ [zI 2 (.box (zR 0)), zI 3 (.box (zR 1)), zI 4 (.mv (zK 0)), zI 5 (.mv (zK 0))] (.seq (.seq (.regionD [zI 10 (.load true 5 (zR 2)), zI 11 (zC 172 [(zR 10)]), zL 12 3, zI 13 (.len (zR 12)), zI 14 (.bin .leq (zR 13) (zK
 40)), zI 15 (zC 152 [(zR 14), (zK 8)]), zI 16 (.lit false 34 1 [(zR 11), (zR 15)]), zI 17 (zC 151 [(zR 16)]), zM 6 17] [0, 1, 0, 4, 12, 31, 63, 127, 255] [0, 1, 2, 3, 4, 5, 6, 7, 8]) (zQ [zM 18 6, zI 19 (.bin .neq (zR
 18) (zK 0))] (.cond (zR 19) (zQ [zM 20 6, zI 4 (.mv (zK 0)), zM 5 20] .ret) .skip))) (zQ [zI 21 (.fld 0 (zR 2)), zI 22 (.fld 0 (zR 21)), zL 23 22, zI 7 (.alloc [(.int .i64 0)]), zN (.store 1 (zR 7) (zR 23))] (.seq (zQ
 [zL 25 3, zI 26 (.mkfn 175 [(zR 2), (zR 7), (zR 3)]), zI 27 (zC 174 [(zR 25), (zR 26)]), zM 24 27, zI 28 (.ext (zR 24) 0), zI 29 (.ext (zR 24) 1), zM 8 28, zM 9 29] (zQ [zM 30 9, zI 31 (.bin .neq (zR 30) (zK 0))] (.cond
 (zR 31) (zQ [zM 32 8, zM 33 9, zM 4 32, zM 5 33] .ret) .skip))) (zQ [zL 34 3, zI 35 (.len (zR 34)), zI 36 (.bin .gtr (zR 35) (zK 0)), zM 37 36, zT 38 37 (.load false 1 (zR 7)), zT 39 37 (.fld 0 (zR 2)), zT 40 37 (.fld 1
 (zR 39)), zT 41 37 (.load false 1 (zR 40)), zT 42 37 (.bin .add (zR 41) (zK 1)), zT 43 37 (.bin .eql (zR 38) (zR 42)), zI 44 (.pick (zR 37) (zR 43) (zB false)), zI 45 (zC 152 [(zR 44), (zK 21)]), zI 4 (.mv (zK 0)), zM 5
 45] .ret)))))
theorem low83 : lowF Tryz.prog [] Tryz.f83 = some (46, lc83.strip, [.tmp 4, .tmp 5]) := by kernel_rfl
theorem fn83 : FnOk Tryz.prog 83 46 lc83 [.tmp 4, .tmp 5] := ⟨Tryz.call83, [], _, Tryz.func83, low83⟩
def lc84 : LCode :=
 (zQ [zI 2 (.mv (.const (.slice none 0 0)))] (zQ [zI 3 (.lit false 145 3 []), zM 4 0, zI 5 (.append false 145 3 24 (zR 3) (zR 4)), zM 2 5] .ret))
theorem low84 : lowF Tryz.prog [] Tryz.f84 = some (6, lc84.strip, [.tmp 2]) := by kernel_rfl
theorem fn84 : FnOk Tryz.prog 84 6 lc84 [.tmp 2] := ⟨Tryz.call84, [], _, Tryz.func84, low84⟩
def lc94 : LCode :=
 (zQ [zI 4 (.mv (.const (.slice none 0 0)))] (zQ [zM 5 0, zM 6 1, zI 7 (zC 185 [(zR 5), (zR 6), (zK 0), (zK (-1))]), zM 4 7] .ret))
theorem low94 : lowF Tryz.prog [] Tryz.f94 = some (8, lc94.strip, [.tmp 4]) := by kernel_rfl
theorem fn94 : FnOk Tryz.prog 94 8 lc94 [.tmp 4] := ⟨Tryz.call94, [], _, Tryz.func94, low94⟩
def lc107 : LCode :=
 (zQ [zI 0 (.alloc [(.slice none 0 0), (.slice none 0 0), (.slice none 0 0), (.slice none 0 0), (.int .i64 0), (.int .i64 0), (.int .i64 0), (.int .i64 0)])] (zQ [zI 1 (.build [(.int .i64 0), (.int .i64 0)] [(0, 1, (zK
 0)), (1, 1, (zK 300))]), ⟨some 2, .build [(.string ⟨#[]⟩), (.int .i64 0), (.int .i64 0), (.int .i64 0), (.int .i64 0), (.int .i64 0), (.int .i64 0), (.int .i64 0), (.slice none 0 0)] [(0, 1, (.const (.string ⟨#[118, 97,
 108, 118, 101]⟩))), (1, 1, (zK 1)), (2, 1, (zK 20)), (3, 1, (zK 30)), (4, 1, (zK 4)), (5, 1, (zK 50)), (6, 2, (zR 1))], none⟩, zI 3 (.build [(.int .i64 0), (.int .i64 0)] [(0, 1, (zK 80)), (1, 1, (zK 90))]), ⟨some 4,
 .build [(.string ⟨#[]⟩), (.int .i64 0), (.int .i64 0), (.int .i64 0), (.int .i64 0), (.int .i64 0), (.int .i64 0), (.int .i64 0), (.slice none 0 0)] [(0, 1, (.const (.string ⟨#[112, 114, 111, 98, 101]⟩))), (1, 1, (zK
 2)), (2, 1, (zK 10)), (3, 1, (zK 10)), (4, 1, (zK 1)), (5, 1, (zK 30)), (6, 2, (zR 3))], none⟩, zI 5 (.build [(.int .i64 0), (.int .i64 0)] [(0, 1, (zK 0)), (1, 1, (zK 400))]), zI 6 (.lit false 3 1 [(zK 0)]), ⟨some 7,
 .build [(.string ⟨#[]⟩), (.int .i64 0), (.int .i64 0), (.int .i64 0), (.int .i64 0), (.int .i64 0), (.int .i64 0), (.int .i64 0), (.slice none 0 0)] [(0, 1, (.const (.string ⟨#[99, 108, 111, 115, 101]⟩))), (1, 1, (zK
 1)), (2, 1, (zK 10)), (3, 1, (zK 20)), (4, 1, (zK 2)), (5, 1, (zK 40)), (6, 2, (zR 5)), (8, 1, (zR 6))], none⟩, zI 8 (.lit false 182 9 [(zR 2), (zR 4), (zR 7)]), zI 9 (.lit false 3 1 [(zK 0), (zK 10), (zK 20)]), zI 10
 (.lit false 3 1 [(zK 10), (zK 0), (zK 10)]), zI 11 (.lit false 3 1 [(zK 20), (zK 10), (zK 0)]), zI 12 (.lit false 49 1 [(zR 9), (zR 10), (zR 11)]), zI 13 (.lit false 3 1 [(zK 30), (zK 40), (zK 50)]), zI 14 (.build [(.int
 .i64 0), (.int .i64 0)] [(0, 1, (zK 100)), (1, 1, (zK 199))]), zI 15 (.build [(.int .i64 0), (.int .i64 0), (.int .i64 0)] [(0, 2, (zR 14)), (2, 1, (zK 5))]), zI 16 (.lit false 273 3 [(zR 15)]), zI 17 (.build [(.slice
 none 0 0), (.slice none 0 0), (.slice none 0 0), (.slice none 0 0), (.int .i64 0), (.int .i64 0), (.int .i64 0), (.int .i64 0)] [(0, 1, (zR 8)), (1, 1, (zR 12)), (2, 1, (zR 13)), (3, 1, (zR 16)), (4, 1, (zK 1)), (5, 1,
 (zK 2)), (6, 1, (zK 20)), (7, 1, (zK 400))]), zN (.store 8 (zR 0) (zR 17))] .ret))
theorem low107 : lowF Tryz.prog [] Tryz.f107 = some (18, lc107.strip, [.cell 0 true 8]) := by kernel_rfl
theorem fn107 : FnOk Tryz.prog 107 18 lc107 [.cell 0 true 8] := ⟨Tryz.call107, [], _, Tryz.func107, low107⟩
def lc108 : LCode :=
 (zQ [zI 0 (.alloc [(.int .i64 0), (.int .i64 0), (.int .i64 0), (.int .i64 0), (.slice none 0 0)])] (zQ [zI 1 (.build [(.int .i64 0), (.int .i64 0), (.int .i64 0), (.int .i64 0), (.slice none 0 0)] [(2, 1, (zK 300)), (3,
 1, (zK 6))]), zN (.store 5 (zR 0) (zR 1))] .ret))
theorem low108 : lowF Tryz.prog [] Tryz.f108 = some (2, lc108.strip, [.cell 0 true 5]) := by kernel_rfl
theorem fn108 : FnOk Tryz.prog 108 2 lc108 [.cell 0 true 5] := ⟨Tryz.call108, [], _, Tryz.func108, low108⟩
def lc109 : LCode :=
 (zQ [⟨some 2, .mv (.const (.string ⟨#[]⟩)), none⟩] (zQ [zI 3 (.mv (.const (.slice none 0 0)))] (.seq (zQ [zM 6 0, zI 7 (.len (zR 6)), zI 8 (.mv (zK 0))] (.block 0 (.loop (zQ [zI 9 (.bin .lss (zR 8) (zR 7))] (.seq (.cond
 (zR 9) .skip (.exit 0)) (.seq (.block 1 (zQ [zI 10 (.idx 1 (zR 6) (zR 8)), zL 11 10, zM 5 11] (.region [zM 12 3, zM 13 5, zI 14 (zC 181 [(zR 13)]), zI 15 (.lit false 9 1 [(zR 14)]), zI 16 (.append true 9 1 16 (zR 12) (zR
 15)), zM 3 16]))) (.region [zI 17 (.bin .add (zR 8) (zK 1)), zM 8 17]))))))) (zQ [zM 18 3, ⟨some 19, zC 93 [(zR 18), (.const (.string ⟨#[32]⟩))], none⟩, zM 2 19] .ret))))
theorem low109 : lowF Tryz.prog [16] Tryz.f109 = some (20, lc109.strip, [.tmp 2]) := by kernel_rfl
theorem fn109 : FnOk Tryz.prog 109 20 lc109 [.tmp 2] := ⟨Tryz.call109, [16], _, Tryz.func109, low109⟩
def lc110 : LCode :=
 (zQ [zI 4 (.mv (.const .nilFunc))] (zQ [zM 5 0, zM 6 1, zI 7 (zC 197 [(zR 5), (zR 6), (zK 0)]), zM 4 7] .ret))
theorem low110 : lowF Tryz.prog [] Tryz.f110 = some (8, lc110.strip, [.tmp 4]) := by kernel_rfl
theorem fn110 : FnOk Tryz.prog 110 8 lc110 [.tmp 4] := ⟨Tryz.call110, [], _, Tryz.func110, low110⟩
def ra112 : LCode :=
 (.region [zM 7 12])
def rb112 : LCode :=
 (.block 1 (zQ [zM 14 7, zI 15 (zC 191 [(zR 14)]), zM 13 15, zI 16 (.ext (zR 13) 0), zI 17 (.ext (zR 13) 1), zM 8 16, zM 9 17] (.seq (zQ [zM 18 9, zI 19 (.nilI true (zR 18) (.const .nilIface)), zM 20 19, zF 21 20 (.mv (zR
 8)), zF 22 20 (.bin .lss (zR 21) (zK 0)), zI 23 (.pick (zR 20) (zB true) (zR 22)), zM 24 23, zF 25 24 (.mv (zR 8)), zF 26 24 (zC 181 [(zR 25)]), zF 27 24 (.mv (zR 7)), zF 28 24 (.eqS true (zR 26) (zR 27)), zI 29 (.pick
 (zR 24) (zB true) (zR 28)), zM 30 29, zF 31 30 (.mv (zR 7)), zF 32 30 (.lenS (zR 31)), zF 33 30 (.load false 1 (zR 3)), zF 34 30 (.bin .gtr (zR 32) (zR 33)), zI 35 (.pick (zR 30) (zB true) (zR 34))] (.cond (zR 35) (zQ
 [zN (.store 1 (zR 4) (.const (.slice none 0 0))), zN (.store 1 (zR 5) (zB false))] .ret) .skip)) (.region [zL 36 6, zM 37 8, zI 38 (.lit false 3 1 [(zR 37)]), zI 39 (.append true 3 1 8 (zR 36) (zR 38)), zN (.store 1 (zR
 6) (zR 39))]))))
def lc112 : LCode :=
 (zQ [zI 3 (.boxS (zR 1)), zI 4 (.alloc [(.slice none 0 0)]), zI 5 (.alloc [(.bool false)])] (zQ [zI 6 (.alloc [(.slice none 0 0)])] (.seq (zQ [zM 10 0, ⟨some 11, zC 110 [(zR 10), (.const (.string ⟨#[32]⟩))], none⟩]
 (.block 0 (.rangeFunc (zR 11) [12] ra112 rb112))) (zQ [zL 40 6, zN (.store 1 (zR 4) (zR 40)), zN (.store 1 (zR 5) (zB true))] .ret))))
theorem low112 : lowF Tryz.prog [3, 39] Tryz.f112 = some (41, lc112.strip, [.cell 4 false 1, .cell 5 false 1]) := by kernel_rfl
theorem fn112 : FnOk Tryz.prog 112 41 lc112 [.cell 4 false 1, .cell 5 false 1] := ⟨Tryz.call112, [3, 39], _, Tryz.func112, low112⟩
def lc113 : LCode :=
 (zQ [zI 1 (.boxS (zR 0)), zI 2 (.mv (zK 0)), zI 3 (.mv (zK 0))] (.seq (zQ [zL 4 1, zI 5 (.len (zR 4)), zI 6 (.bin .gtr (zR 5) (zK 6))] (.cond (zR 6) (zQ [zI 2 (.mv (zK 0)), zI 3 (.mv (zK 8))] .ret) .skip)) (zQ [zL 7 1,
 zI 8 (.mkfn 200 [(zR 1)]), zI 9 (zC 199 [(zR 7), (zR 8)]), zI 10 (.ext (zR 9) 0), zI 11 (.ext (zR 9) 1), zM 2 10, zM 3 11] .ret)))
theorem low113 : lowF Tryz.prog [1] Tryz.f113 = some (12, lc113.strip, [.tmp 2, .tmp 3]) := by kernel_rfl
theorem fn113 : FnOk Tryz.prog 113 12 lc113 [.tmp 2, .tmp 3] := ⟨Tryz.call113, [1], _, Tryz.func113, low113⟩
def lc117 : LCode :=
 (zQ [zI 2 (.mv (zB false))] (.seq (zQ [zM 6 0, zI 7 (.lenS (zR 6)), zI 8 (.bin .lss (zR 7) (zK 1)), zM 9 8, zF 10 9 (.mv (zR 0)), zF 11 9 (.lenS (zR 10)), zF 12 9 (.bin .gtr (zR 11) (zK 12)), zI 13 (.pick (zR 9) (zB
 true) (zR 12))] (.cond (zR 13) (zQ [zI 2 (.mv (zB false))] .ret) .skip)) (.seq (zQ [zI 3 (.mv (zK 0))] (.block 0 (.loop (.seq (zQ [zM 14 3, zM 15 0, zI 16 (.lenS (zR 15)), zI 17 (.bin .lss (zR 14) (zR 16))] (.cond (zR
 17) .skip (.exit 0))) (.seq (.block 1 (zQ [zM 20 0, zM 21 3, zI 22 (.indexS (zR 20) (zR 21)), zM 4 22] (zQ [zM 23 4, zI 24 (.bin .geq (zR 23) (.const (.int .u8 97))), zM 25 24, zT 26 25 (.mv (zR 4)), zT 27 25 (.bin .leq
 (zR 26) (.const (.int .u8 122))), zI 28 (.pick (zR 25) (zR 27) (zB false)), zM 29 28, zF 30 29 (.mv (zR 4)), zF 31 29 (.bin .geq (zR 30) (.const (.int .u8 65))), zF 32 29 (.mv (zR 31)), zT 33 32 (.mv (zR 4)), zT 34 32
 (.bin .leq (zR 33) (.const (.int .u8 90))), zF 35 29 (.pick (zR 32) (zR 34) (zB false)), zI 36 (.pick (zR 29) (zB true) (zR 35)), zM 5 36] (zQ [zM 37 5, zI 38 (.un .not (zR 37)), zM 39 38, zT 40 39 (.mv (zR 3)), zT 41 39
 (.bin .eql (zR 40) (zK 0)), zT 42 39 (.mv (zR 41)), zF 43 42 (.mv (zR 4)), zF 44 42 (.bin .neq (zR 43) (.const (.int .u8 45))), zF 45 42 (.mv (zR 44)), zT 46 45 (.mv (zR 4)), zT 47 45 (.bin .lss (zR 46) (.const (.int .u8
 48))), zT 48 45 (.mv (zR 47)), zF 49 48 (.mv (zR 4)), zF 50 48 (.bin .gtr (zR 49) (.const (.int .u8 57))), zT 51 45 (.pick (zR 48) (zB true) (zR 50)), zF 52 42 (.pick (zR 45) (zR 51) (zB false)), zT 53 39 (.pick (zR 42)
 (zB true) (zR 52)), zI 54 (.pick (zR 39) (zR 53) (zB false))] (.cond (zR 54) (zQ [zI 2 (.mv (zB false))] .ret) .skip))))) (.region [zM 18 3, zI 19 (.bin .add (zR 18) (zK 1)), zM 3 19])))))) (zQ [zI 2 (.mv (zB true))]
 .ret))))
theorem low117 : lowF Tryz.prog [] Tryz.f117 = some (55, lc117.strip, [.tmp 2]) := by kernel_rfl
theorem fn117 : FnOk Tryz.prog 117 55 lc117 [.tmp 2] := ⟨Tryz.call117, [], _, Tryz.func117, low117⟩
def lc118 : LCode :=
 (zQ [zI 2 (.mv (zB false))] (zQ [zM 3 0, zI 4 (zC 46 [(zR 3), (zK 0), (zK 10000)]), zM 2 4] .ret))
theorem low118 : lowF Tryz.prog [] Tryz.f118 = some (5, lc118.strip, [.tmp 2]) := by kernel_rfl
theorem fn118 : FnOk Tryz.prog 118 5 lc118 [.tmp 2] := ⟨Tryz.call118, [], _, Tryz.func118, low118⟩
def lc119 : LCode :=
 (zQ [zI 2 (.mv (zB false))] (zQ [zM 3 0, zI 4 (zC 46 [(zR 3), (zK 0), (zK 100000)]), zM 2 4] .ret))
theorem low119 : lowF Tryz.prog [] Tryz.f119 = some (5, lc119.strip, [.tmp 2]) := by kernel_rfl
theorem fn119 : FnOk Tryz.prog 119 5 lc119 [.tmp 2] := ⟨Tryz.call119, [], _, Tryz.func119, low119⟩
def lc138 : LCode :=
 (zQ [zI 1 (.boxS (zR 0)), zI 2 (.mv (zK 0)), zI 3 (.mv (zK 0))] (.seq (zQ [zI 12 (.fld 0 (zR 1)), zL 13 12, zI 14 (zC 45 [(zR 13)]), zM 11 14, zI 15 (.ext (zR 11) 0), zI 16 (.ext (zR 11) 1), zM 4 15, zM 5 16] (zQ [zM 17
 5, zI 18 (.bin .neq (zR 17) (zK 0))] (.cond (zR 18) (zQ [zM 19 4, zM 20 5, zM 2 19, zM 3 20] .ret) .skip))) (.seq (zQ [zI 21 (.fld 2 (zR 1)), zL 22 21, zI 23 (.len (zR 22)), zI 24 (.bin .eql (zR 23) (zK 0))] (.cond (zR
 24) (zQ [zI 2 (.mv (zK 0)), zI 3 (.mv (zK 10))] .ret) .skip)) (.seq (zQ [zI 25 (.fld 2 (zR 1)), zL 26 25, zI 27 (.len (zR 26)), zI 28 (.bin .gtr (zR 27) (zK 5))] (.cond (zR 28) (zQ [zI 2 (.mv (zK 0)), zI 3 (.mv (zK 8))]
 .ret) .skip)) (.seq (zQ [zI 29 (.fld 1 (zR 1)), zL 30 29, zI 31 (.len (zR 30)), zI 32 (.fld 2 (zR 1)), zL 33 32, zI 34 (.len (zR 33)), zI 35 (.bin .neq (zR 31) (zR 34))] (.cond (zR 35) (zQ [zI 2 (.mv (zK 0)), zI 3 (.mv
 (zK 10))] .ret) .skip)) (.seq (zQ [zI 6 (.mv (zK 0))] (.block 0 (.loop (.seq (zQ [zM 36 6, zI 37 (.fld 2 (zR 1)), zL 38 37, zI 39 (.len (zR 38)), zI 40 (.bin .lss (zR 36) (zR 39))] (.cond (zR 40) .skip (.exit 0))) (.seq
 (.block 1 (.seq (zQ [zI 43 (.fld 2 (zR 1)), zL 44 43, zM 45 6, zI 46 (.idx 1 (zR 44) (zR 45)), zL 47 46, zI 48 (zC 118 [(zR 47)]), zI 49 (.un .not (zR 48))] (.cond (zR 49) (zQ [zM 50 6, zM 2 50, zI 3 (.mv (zK 2))] .ret)
 .skip)) (.seq (.seq (.regionD [zI 51 (.fld 1 (zR 1)), zL 52 51, zM 53 6, zI 54 (.idx 1 (zR 52) (zR 53)), zL 55 54, zI 56 (.len (zR 55)), zI 57 (.fld 2 (zR 1)), zL 58 57, zI 59 (.len (zR 58)), zI 60 (.bin .neq (zR 56) (zR
 59))] [0, 1, 0, 7, 15, 31, 0, 64, 192, 511] [0, 1, 2, 3, 4, 5, 6, 7, 8, 9]) (.cond (zR 60) (zQ [zM 61 6, zM 2 61, zI 3 (.mv (zK 10))] .ret) .skip)) (zQ [zI 7 (.mv (zK 0))] (.block 2 (.loop (.seq (zQ [zM 62 7, zI 63 (.fld
 2 (zR 1)), zL 64 63, zI 65 (.len (zR 64)), zI 66 (.bin .lss (zR 62) (zR 65))] (.cond (zR 66) .skip (.exit 2))) (.seq (.block 3 (zQ [zI 69 (.fld 1 (zR 1)), zL 70 69, zM 71 6, zI 72 (.idx 1 (zR 70) (zR 71)), zL 73 72, zM
 74 7, zI 75 (.idx 1 (zR 73) (zR 74)), zL 76 75, zI 77 (zC 118 [(zR 76)]), zI 78 (.un .not (zR 77)), zM 79 78, zF 80 79 (.mv (zR 6)), zF 81 79 (.mv (zR 7)), zF 82 79 (.bin .eql (zR 80) (zR 81)), zF 83 79 (.mv (zR 82)), zT
 84 83 (.fld 1 (zR 1)), zT 85 83 (.load false 1 (zR 84)), zT 86 83 (.mv (zR 6)), zT 87 83 (.idx 1 (zR 85) (zR 86)), zT 88 83 (.load false 1 (zR 87)), zT 89 83 (.mv (zR 7)), zT 90 83 (.idx 1 (zR 88) (zR 89)), zT 91 83
 (.load false 1 (zR 90)), zT 92 83 (.bin .neq (zR 91) (zK 0)), zF 93 79 (.pick (zR 83) (zR 92) (zB false)), zI 94 (.pick (zR 79) (zB true) (zR 93))] (.cond (zR 94) (zQ [zM 95 6, zM 2 95, zI 3 (.mv (zK 2))] .ret) .skip)))
 (.region [zM 67 7, zI 68 (.bin .add (zR 67) (zK 1)), zM 7 68]))))))))) (.region [zM 41 6, zI 42 (.bin .add (zR 41) (zK 1)), zM 6 42])))))) (.seq (zQ [zI 8 (.mv (zK 0))] (.block 4 (.loop (.seq (zQ [zM 96 8, zI 97 (.fld 0
 (zR 1)), zL 98 97, zI 99 (.len (zR 98)), zI 100 (.bin .lss (zR 96) (zR 99))] (.cond (zR 100) .skip (.exit 4))) (.seq (.block 5 (.seq (.regionD [zI 103 (.fld 0 (zR 1)), zL 104 103, zM 105 8, zI 106 (.idx 9 (zR 104) (zR
 105)), zI 107 (.fld 1 (zR 106)), zL 108 107, zI 109 (.fld 2 (zR 1)), zL 110 109, zI 111 (.len (zR 110)), zI 112 (.bin .geq (zR 108) (zR 111))] [0, 1, 0, 7, 15, 31, 0, 64, 192, 511] [0, 1, 2, 3, 4, 5, 6, 7, 8, 9]) (.cond
 (zR 112) (zQ [zM 113 8, zM 2 113, zI 3 (.mv (zK 6))] .ret) .skip))) (.region [zM 101 8, zI 102 (.bin .add (zR 101) (zK 1)), zM 8 102])))))) (.seq (zQ [zI 114 (.fld 3 (zR 1)), zL 115 114, zI 116 (.len (zR 115)), zI 117
 (.bin .gtr (zR 116) (zK 6))] (.cond (zR 117) (zQ [zI 2 (.mv (zK 0)), zI 3 (.mv (zK 8))] .ret) .skip)) (.seq (zQ [zI 9 (.mv (zK 0))] (.block 6 (.loop (.seq (zQ [zM 118 9, zI 119 (.fld 3 (zR 1)), zL 120 119, zI 121 (.len
 (zR 120)), zI 122 (.bin .lss (zR 118) (zR 121))] (.cond (zR 122) .skip (.exit 6))) (.seq (.block 7 (zQ [zI 125 (.fld 3 (zR 1)), zL 126 125, zM 127 9, zI 128 (.idx 3 (zR 126) (zR 127)), zI 129 (.load true 3 (zR 128)), zI
 10 (.alloc [(.int .i64 0), (.int .i64 0), (.int .i64 0)]), zN (.store 3 (zR 10) (zR 129))] (.seq (zQ [zI 130 (.fld 0 (zR 10)), zI 131 (.fld 0 (zR 130)), zL 132 131, zI 133 (zC 119 [(zR 132)]), zI 134 (.un .not (zR 133)),
 zM 135 134, zF 136 135 (.fld 0 (zR 10)), zF 137 135 (.fld 1 (zR 136)), zF 138 135 (.load false 1 (zR 137)), zF 139 135 (zC 119 [(zR 138)]), zF 140 135 (.un .not (zR 139)), zI 141 (.pick (zR 135) (zB true) (zR 140)), zM
 142 141, zF 143 142 (.fld 2 (zR 10)), zF 144 142 (.load false 1 (zR 143)), zF 145 142 (zC 118 [(zR 144)]), zF 146 142 (.un .not (zR 145)), zI 147 (.pick (zR 142) (zB true) (zR 146))] (.cond (zR 147) (zQ [zM 148 9, zM 2
 148, zI 3 (.mv (zK 2))] .ret) .skip)) (.seq (.regionD [zI 149 (.fld 0 (zR 10)), zI 150 (.fld 0 (zR 149)), zL 151 150, zI 152 (.fld 0 (zR 10)), zI 153 (.fld 1 (zR 152)), zL 154 153, zI 155 (.bin .gtr (zR 151) (zR 154)),
 zM 156 155, zF 157 156 (.mv (zR 9)), zF 158 156 (.bin .gtr (zR 157) (zK 0)), zF 159 156 (.mv (zR 158)), zT 160 159 (.fld 0 (zR 10)), zT 161 159 (.fld 0 (zR 160)), zT 162 159 (.load false 1 (zR 161)), zT 163 159 (.fld 3
 (zR 1)), zT 164 159 (.load false 1 (zR 163)), zT 165 159 (.mv (zR 9)), zT 166 159 (.bin .sub (zR 165) (zK 1)), zT 167 159 (.idx 3 (zR 164) (zR 166)), zT 168 159 (.fld 0 (zR 167)), zT 169 159 (.fld 1 (zR 168)), zT 170 159
 (.load false 1 (zR 169)), zT 171 159 (.bin .leq (zR 162) (zR 170)), zF 172 156 (.pick (zR 159) (zR 171) (zB false)), zI 173 (.pick (zR 156) (zB true) (zR 172))] [0, 1, 3, 0, 8, 24, 63, 127, 255, 511, 1023, 2047, 4095,
 8191, 2047, 18431, 2047, 67583, 247807, 509951, 1034239, 2082815, 4194303, 8388607, 16777215] [0, 1, 2, 3, 4, 5, 6, 7, 8, 9, 10, 11, 12, 13, 14, 15, 16, 17, 18, 19, 20, 21, 22, 23, 24]) (.cond (zR 173) (zQ [zM 174 9, zM
 2 174, zI 3 (.mv (zK 9))] .ret) .skip))))) (.region [zM 123 9, zI 124 (.bin .add (zR 123) (zK 1)), zM 9 124])))))) (.seq (zQ [zI 175 (.fld 4 (zR 1)), zL 176 175, zI 177 (zC 118 [(zR 176)]), zI 178 (.un .not (zR 177)), zM
 179 178, zF 180 179 (.fld 5 (zR 1)), zF 181 179 (.load false 1 (zR 180)), zF 182 179 (zC 118 [(zR 181)]), zF 183 179 (.un .not (zR 182)), zI 184 (.pick (zR 179) (zB true) (zR 183)), zM 185 184, zF 186 185 (.fld 6 (zR
 1)), zF 187 185 (.load false 1 (zR 186)), zF 188 185 (zC 118 [(zR 187)]), zF 189 185 (.un .not (zR 188)), zI 190 (.pick (zR 185) (zB true) (zR 189)), zM 191 190, zF 192 191 (.fld 7 (zR 1)), zF 193 191 (.load false 1 (zR
 192)), zF 194 191 (zC 119 [(zR 193)]), zF 195 191 (.un .not (zR 194)), zI 196 (.pick (zR 191) (zB true) (zR 195))] (.cond (zR 196) (zQ [zI 2 (.mv (zK 0)), zI 3 (.mv (zK 2))] .ret) .skip)) (zQ [zI 2 (.mv (zK 0)), zI 3
 (.mv (zK 0))] .ret)))))))))))
theorem low138 : lowF Tryz.prog [1] Tryz.f138 = some (197, lc138.strip, [.tmp 2, .tmp 3]) := by kernel_rfl
theorem fn138 : FnOk Tryz.prog 138 197 lc138 [.tmp 2, .tmp 3] := ⟨Tryz.call138, [1], _, Tryz.func138, low138⟩
def lc139 : LCode :=
 (zQ [zI 2 (.boxS (zR 0)), zI 3 (.boxS (zR 1)), zI 4 (.mv (zK 0)), zI 5 (.mv (zK 0))] (.seq (zQ [zI 7 (.fld 0 (zR 3)), zL 8 7, zI 9 (.fld 2 (zR 2)), zL 10 9, zI 11 (.len (zR 10)), zI 12 (.bin .sub (zR 11) (zK 1)), zI 13
 (zC 46 [(zR 8), (zK 0), (zR 12)]), zI 14 (.un .not (zR 13))] (.cond (zR 14) (zQ [zI 4 (.mv (zK 0)), zI 5 (.mv (zK 6))] .ret) .skip)) (.seq (zQ [zI 15 (.fld 1 (zR 3)), zL 16 15, zI 17 (zC 119 [(zR 16)]), zI 18 (.un .not
 (zR 17)), zM 19 18, zF 20 19 (.fld 2 (zR 3)), zF 21 19 (.load false 1 (zR 20)), zF 22 19 (zC 46 [(zR 21), (zK 0), (zK 100000000)]), zF 23 19 (.un .not (zR 22)), zI 24 (.pick (zR 19) (zB true) (zR 23)), zM 25 24, zF 26 25
 (.fld 3 (zR 3)), zF 27 25 (.load false 1 (zR 26)), zF 28 25 (zC 118 [(zR 27)]), zF 29 25 (.un .not (zR 28)), zI 30 (.pick (zR 25) (zB true) (zR 29))] (.cond (zR 30) (zQ [zI 4 (.mv (zK 0)), zI 5 (.mv (zK 2))] .ret)
 .skip)) (.seq (zQ [zI 6 (.mv (zK 0))] (.block 0 (.loop (.seq (zQ [zM 31 6, zI 32 (.fld 4 (zR 3)), zL 33 32, zI 34 (.len (zR 33)), zI 35 (.bin .lss (zR 31) (zR 34))] (.cond (zR 35) .skip (.exit 0))) (.seq (.block 1 (.seq
 (.seq (.regionD [zI 38 (.load true 8 (zR 2)), zI 39 (.fld 4 (zR 3)), zL 40 39, zM 41 6, zI 42 (.idx 1 (zR 40) (zR 41)), zL 43 42, zI 44 (zC 216 [(zR 38), (zR 43)]), zI 45 (.un .not (zR 44))] [0, 0, 2, 0, 14, 30, 63, 127]
 [0, 1, 2, 3, 4, 5, 6, 7]) (.cond (zR 45) (zQ [zM 46 6, zM 4 46, zI 5 (.mv (zK 6))] .ret) .skip)) (.seq (.regionD [zM 47 6, zI 48 (.bin .gtr (zR 47) (zK 0)), zM 49 48, zT 50 49 (.fld 4 (zR 3)), zT 51 49 (.load false 1 (zR
 50)), zT 52 49 (.mv (zR 6)), zT 53 49 (.idx 1 (zR 51) (zR 52)), zT 54 49 (.load false 1 (zR 53)), zT 55 49 (.fld 4 (zR 3)), zT 56 49 (.load false 1 (zR 55)), zT 57 49 (.mv (zR 6)), zT 58 49 (.bin .sub (zR 57) (zK 1)), zT
 59 49 (.idx 1 (zR 56) (zR 58)), zT 60 49 (.load false 1 (zR 59)), zT 61 49 (.bin .leq (zR 54) (zR 60)), zI 62 (.pick (zR 49) (zR 61) (zB false))] [0, 1, 3, 7, 15, 7, 63, 127, 7, 263, 7, 1031, 3847, 7943, 16383, 32767]
 [0, 1, 2, 3, 4, 5, 6, 7, 8, 9, 10, 11, 12, 13, 14, 15]) (.cond (zR 62) (zQ [zM 63 6, zM 4 63, zI 5 (.mv (zK 9))] .ret) .skip)))) (.region [zM 36 6, zI 37 (.bin .add (zR 36) (zK 1)), zM 6 37])))))) (zQ [zI 4 (.mv (zK 0)),
 zI 5 (.mv (zK 0))] .ret)))))
theorem low139 : lowF Tryz.prog [2, 3] Tryz.f139 = some (64, lc139.strip, [.tmp 4, .tmp 5]) := by kernel_rfl
theorem fn139 : FnOk Tryz.prog 139 64 lc139 [.tmp 4, .tmp 5] := ⟨Tryz.call139, [2, 3], _, Tryz.func139, low139⟩
def lc140 : LCode :=
 (zQ [zI 2 (.boxS (zR 0)), zI 3 (.boxS (zR 1)), zI 4 (.alloc [(.int .i64 0), (.int .i64 0)])] (.seq (.regionD [zI 6 (.load true 8 (zR 2)), zI 7 (.fld 2 (zR 2)), zL 8 7, zI 9 (.fld 0 (zR 3)), zL 10 9, zI 11 (.idx 1 (zR 8)
 (zR 10)), zL 12 11, zI 13 (.fld 1 (zR 3)), zL 14 13, zI 15 (zC 217 [(zR 6), (zR 12), (zR 14)]), zM 5 15] [0, 0, 2, 0, 8, 30, 62, 0, 128, 511, 1023] [0, 1, 2, 3, 4, 5, 6, 7, 8, 9, 10]) (zQ [zM 16 5, zM 17 5, zI 18 (.fld 5
 (zR 2)), zL 19 18, zI 20 (.bin .mul (zR 17) (zR 19)), zI 21 (.build [(.int .i64 0), (.int .i64 0)] [(0, 1, (zR 16)), (1, 1, (zR 20))]), zN (.store 2 (zR 4) (zR 21))] .ret)))
theorem low140 : lowF Tryz.prog [2, 3] Tryz.f140 = some (22, lc140.strip, [.cell 4 true 2]) := by kernel_rfl
theorem fn140 : FnOk Tryz.prog 140 22 lc140 [.cell 4 true 2] := ⟨Tryz.call140, [2, 3], _, Tryz.func140, low140⟩
def lc141 : LCode :=
 (zQ [zI 2 (.boxS (zR 0)), zI 3 (.boxS (zR 1)), zI 4 (.alloc [(.slice none 0 0), (.slice none 0 0), (.slice none 0 0), (.slice none 0 0), (.int .i64 0), (.int .i64 0), (.int .i64 0), (.int .i64 0), (.int .i64 0), (.int
 .i64 0), (.int .i64 0), (.int .i64 0), (.slice none 0 0)]), zI 5 (.mv (zK 0))] (zQ [zI 9 (.load true 8 (zR 2)), zI 10 (.load true 5 (zR 3)), zI 11 (zC 156 [(zR 9), (zR 10)]), zM 8 11, zI 12 (.ext (zR 8) 0), zI 13 (.ext
 (zR 8) 1), zI 6 (.alloc [(.slice none 0 0), (.slice none 0 0), (.slice none 0 0), (.slice none 0 0), (.int .i64 0), (.int .i64 0), (.int .i64 0), (.int .i64 0), (.int .i64 0), (.int .i64 0), (.int .i64 0), (.int .i64 0),
 (.slice none 0 0)]), zN (.store 13 (zR 6) (zR 12)), zM 7 13] (.seq (zQ [zM 14 7, zI 15 (.bin .eql (zR 14) (zK 0)), zM 16 15, zT 17 16 (.load true 13 (zR 6)), zT 18 16 (zC 165 [(zR 17)]), zT 19 16 (.un .not (zR 18)), zI
 20 (.pick (zR 16) (zR 19) (zB false))] (.cond (zR 20) (.region [zI 7 (.mv (zK 24))]) .skip)) (zQ [zI 21 (.load true 13 (zR 6)), zM 22 7, zN (.store 13 (zR 4) (zR 21)), zM 5 22] .ret))))
theorem low141 : lowF Tryz.prog [2, 3] Tryz.f141 = some (23, lc141.strip, [.cell 4 true 13, .tmp 5]) := by kernel_rfl
theorem fn141 : FnOk Tryz.prog 141 23 lc141 [.cell 4 true 13, .tmp 5] := ⟨Tryz.call141, [2, 3], _, Tryz.func141, low141⟩
def ra142 : LCode :=
 (.region [zM 8 13])
def rb142 : LCode :=
 (.block 1 (zQ [zI 14 (.fld 0 (zR 2)), zI 15 (.load true 8 (zR 14)), zM 16 8, zI 17 (zC 163 [(zR 15), (zR 16)]), zM 9 17] (zQ [zM 18 9, zL 19 7, zI 20 (.bin .gtr (zR 18) (zR 19))] (.cond (zR 20) (.region [zM 21 8, zI 22
 (zC 164 [(zR 21)]), zM 23 9, zN (.store 1 (zR 6) (zR 22)), zN (.store 1 (zR 7) (zR 23))]) .skip))))
def lc142 : LCode :=
 (zQ [zI 2 (.boxS (zR 0)), zI 4 (.mv (.const (.slice none 0 0))), zI 5 (.mv (zK 0))] (zQ [zI 6 (.alloc [(.slice none 0 0)])] (zQ [zI 7 (.alloc [(.int .i64 0)]), zN (.store 1 (zR 7) (zK 0))] (.seq (zQ [zI 10 (.load true 13
 (zR 2)), zM 11 1, zI 12 (zC 218 [(zR 10), (zR 11)])] (.block 0 (.rangeFunc (zR 12) [13] ra142 rb142))) (.seq (.regionD [zL 24 6, zL 25 7, zM 4 24, zM 5 25] [0, 0, 1, 7] [0, 1, 2, 3]) .ret)))))
theorem low142 : lowF Tryz.prog [2] Tryz.f142 = some (26, lc142.strip, [.tmp 4, .tmp 5]) := by kernel_rfl
theorem fn142 : FnOk Tryz.prog 142 26 lc142 [.tmp 4, .tmp 5] := ⟨Tryz.call142, [2], _, Tryz.func142, low142⟩
def lc143 : LCode :=
 (zQ [zI 2 (.mv (zB false))] (zQ [zI 2 (.mv (zB true))] .ret))
theorem low143 : lowF Tryz.prog [] Tryz.f143 = some (3, lc143.strip, [.tmp 2]) := by kernel_rfl
theorem fn143 : FnOk Tryz.prog 143 3 lc143 [.tmp 2] := ⟨Tryz.call143, [], _, Tryz.func143, low143⟩
def lc144 : LCode :=
 (zQ [zI 2 (.boxS (zR 0)), zI 4 (.mv (zB false))] (zQ [zI 5 (.fld 8 (zR 2)), zI 6 (.fld 4 (zR 5)), zL 7 6, zM 8 1, zI 9 (zC 186 [(zR 7), (zR 8)]), zM 4 9] .ret))
theorem low144 : lowF Tryz.prog [2] Tryz.f144 = some (10, lc144.strip, [.tmp 4]) := by kernel_rfl
theorem fn144 : FnOk Tryz.prog 144 10 lc144 [.tmp 4] := ⟨Tryz.call144, [2], _, Tryz.func144, low144⟩
def lc151 : LCode :=
 (zQ [zI 2 (.mv (zK 0))] (.seq (zQ [zM 5 0, zI 6 (.len (zR 5)), zI 7 (.mv (zK 0))] (.block 0 (.loop (zQ [zI 8 (.bin .lss (zR 7) (zR 6))] (.seq (.cond (zR 8) .skip (.exit 0)) (.seq (.block 1 (zQ [zI 9 (.idx 1 (zR 5) (zR
 7)), zL 10 9, zM 4 10] (zQ [zM 11 4, zI 12 (.bin .neq (zR 11) (zK 0))] (.cond (zR 12) (zQ [zM 13 4, zM 2 13] .ret) .skip)))) (.region [zI 14 (.bin .add (zR 7) (zK 1)), zM 7 14]))))))) (zQ [zI 2 (.mv (zK 0))] .ret)))
theorem low151 : lowF Tryz.prog [] Tryz.f151 = some (15, lc151.strip, [.tmp 2]) := by kernel_rfl
theorem fn151 : FnOk Tryz.prog 151 15 lc151 [.tmp 2] := ⟨Tryz.call151, [], _, Tryz.func151, low151⟩
def lc152 : LCode :=
 (zQ [zI 4 (.mv (zK 0))] (.seq (zQ [zM 5 0] (.cond (zR 5) (zQ [zI 4 (.mv (zK 0))] .ret) .skip)) (zQ [zM 6 1, zM 4 6] .ret)))
theorem low152 : lowF Tryz.prog [] Tryz.f152 = some (7, lc152.strip, [.tmp 4]) := by kernel_rfl
theorem fn152 : FnOk Tryz.prog 152 7 lc152 [.tmp 4] := ⟨Tryz.call152, [], _, Tryz.func152, low152⟩
def lc154 : LCode :=
 (zQ [zI 2 (.mv (zB false))] (zQ [zM 3 0, zI 4 (zC 168 [(zR 3), (zK 0), (zK 10000)]), zM 2 4] .ret))
theorem low154 : lowF Tryz.prog [] Tryz.f154 = some (5, lc154.strip, [.tmp 2]) := by kernel_rfl
theorem fn154 : FnOk Tryz.prog 154 5 lc154 [.tmp 2] := ⟨Tryz.call154, [], _, Tryz.func154, low154⟩
def lc156 : LCode :=
 (zQ [zI 2 (.boxS (zR 0)), zI 3 (.boxS (zR 1)), zI 4 (.alloc [(.slice none 0 0), (.slice none 0 0), (.slice none 0 0), (.slice none 0 0), (.int .i64 0), (.int .i64 0), (.int .i64 0), (.int .i64 0), (.int .i64 0), (.int
 .i64 0), (.int .i64 0), (.int .i64 0), (.slice none 0 0)]), zI 5 (.mv (zK 0))] (zQ [zI 11 (.load true 8 (zR 2)), zI 12 (zC 171 [(zR 11)]), zM 10 12, zI 13 (.ext (zR 10) 0), zI 14 (.ext (zR 10) 1), zM 6 13, zM 7 14] (zQ
 [zI 16 (.load true 8 (zR 2)), zI 17 (.load true 5 (zR 3)), zI 18 (zC 219 [(zR 16), (zR 17)]), zM 15 18, zI 19 (.ext (zR 15) 0), zI 20 (.ext (zR 15) 1), zM 8 19, zM 9 20] (.seq (.regionD [zI 21 (.load true 8 (zR 2)), zI
 22 (.load true 5 (zR 3)), zI 23 (.build [(.slice none 0 0), (.slice none 0 0), (.slice none 0 0), (.slice none 0 0), (.int .i64 0), (.int .i64 0), (.int .i64 0), (.int .i64 0), (.int .i64 0), (.int .i64 0), (.int .i64
 0), (.int .i64 0), (.slice none 0 0)] [(0, 8, (zR 21)), (8, 5, (zR 22))]), zM 24 7, zM 25 9, zI 26 (.lit false 34 1 [(zR 24), (zR 25)]), zI 27 (zC 151 [(zR 26)]), zN (.store 13 (zR 4) (zR 23)), zM 5 27] [0, 0, 3, 0, 0,
 24, 56, 127, 255] [0, 1, 2, 3, 4, 5, 6, 7, 8]) .ret))))
theorem low156 : lowF Tryz.prog [2, 3] Tryz.f156 = some (28, lc156.strip, [.cell 4 true 13, .tmp 5]) := by kernel_rfl
theorem fn156 : FnOk Tryz.prog 156 28 lc156 [.cell 4 true 13, .tmp 5] := ⟨Tryz.call156, [2, 3], _, Tryz.func156, low156⟩
def lc158 : LCode :=
 (zQ [zI 4 (.mv (zB false))] (zQ [zM 5 0, zM 6 1, zI 7 (zC 222 [(zR 5), (zR 6)]), zI 8 (.bin .geq (zR 7) (zK 0)), zM 4 8] .ret))
theorem low158 : lowF Tryz.prog [] Tryz.f158 = some (9, lc158.strip, [.tmp 4]) := by kernel_rfl
theorem fn158 : FnOk Tryz.prog 158 9 lc158 [.tmp 4] := ⟨Tryz.call158, [], _, Tryz.func158, low158⟩
def lc163 : LCode :=
 (zQ [zI 2 (.boxS (zR 0)), zI 4 (.mv (zK 0))] (zQ [zI 5 (.mv (zK 0))] (.seq (zQ [zM 8 1, zI 9 (.len (zR 8)), zI 10 (.mv (zK 0))] (.block 0 (.loop (zQ [zI 11 (.bin .lss (zR 10) (zR 9))] (.seq (.cond (zR 11) .skip (.exit
 0)) (.seq (.block 1 (zQ [zI 12 (.idx 1 (zR 8) (zR 10)), zL 13 12, zM 7 13] (.region [zM 14 5, zI 15 (.fld 0 (zR 2)), zL 16 15, zM 17 7, zI 18 (.idx 9 (zR 16) (zR 17)), zI 19 (.fld 5 (zR 18)), zL 20 19, zI 21 (.bin .add
 (zR 14) (zR 20)), zM 5 21]))) (.region [zI 22 (.bin .add (zR 10) (zK 1)), zM 10 22]))))))) (zQ [zM 23 5, zM 4 23] .ret))))
theorem low163 : lowF Tryz.prog [2] Tryz.f163 = some (24, lc163.strip, [.tmp 4]) := by kernel_rfl
theorem fn163 : FnOk Tryz.prog 163 24 lc163 [.tmp 4] := ⟨Tryz.call163, [2], _, Tryz.func163, low163⟩
def lc164 : LCode :=
 (zQ [zI 2 (.mv (.const (.slice none 0 0)))] (.seq (zQ [zM 3 0, zI 4 (.isnil false (zR 3))] (.cond (zR 4) (zQ [zI 2 (.mv (.const (.slice none 0 0)))] .ret) .skip)) (zQ [zI 5 (.lit false 3 1 []), zM 6 0, zI 7 (.append true
 3 1 8 (zR 5) (zR 6)), zM 2 7] .ret)))
theorem low164 : lowF Tryz.prog [7] Tryz.f164 = some (8, lc164.strip, [.tmp 2]) := by kernel_rfl
theorem fn164 : FnOk Tryz.prog 164 8 lc164 [.tmp 2] := ⟨Tryz.call164, [7], _, Tryz.func164, low164⟩
def lc165 : LCode :=
 (zQ [zI 1 (.boxS (zR 0)), zI 2 (.mv (zB false))] (zQ [zI 4 (.load true 13 (zR 1)), zI 5 (zC 167 [(zR 4)]), zI 3 (.alloc [(.int .i64 0), (.int .i64 0)]), zN (.store 2 (zR 3) (zR 5))] (zQ [zI 6 (.fld 8 (zR 1)), zI 7 (.fld
 2 (zR 6)), zL 8 7, zI 9 (.fld 1 (zR 3)), zL 10 9, zI 11 (.bin .sub (zR 8) (zR 10)), zI 12 (.fld 0 (zR 1)), zI 13 (.fld 6 (zR 12)), zL 14 13, zI 15 (.bin .geq (zR 11) (zR 14)), zM 16 15, zT 17 16 (.fld 8 (zR 1)), zT 18 16
 (.fld 1 (zR 17)), zT 19 16 (.load false 1 (zR 18)), zT 20 16 (.fld 0 (zR 3)), zT 21 16 (.load false 1 (zR 20)), zT 22 16 (.bin .add (zR 19) (zR 21)), zT 23 16 (.fld 0 (zR 1)), zT 24 16 (.fld 7 (zR 23)), zT 25 16 (.load
 false 1 (zR 24)), zT 26 16 (.bin .leq (zR 22) (zR 25)), zI 27 (.pick (zR 16) (zR 26) (zB false)), zM 2 27] .ret)))
theorem low165 : lowF Tryz.prog [1] Tryz.f165 = some (28, lc165.strip, [.tmp 2]) := by kernel_rfl
theorem fn165 : FnOk Tryz.prog 165 28 lc165 [.tmp 2] := ⟨Tryz.call165, [1], _, Tryz.func165, low165⟩
def lc166 : LCode :=
 (zQ [zI 2 (.box (zR 0)), zI 4 (.alloc [(.slice none 0 0), (.slice none 0 0), (.slice none 0 0), (.slice none 0 0), (.int .i64 0), (.int .i64 0), (.int .i64 0), (.int .i64 0), (.int .i64 0), (.int .i64 0), (.int .i64 0),
 (.int .i64 0), (.slice none 0 0)])] (zQ [zI 5 (.fld 8 (zR 2)), zI 6 (.fld 2 (zR 5)), zL 7 6, zM 8 1, zI 9 (.fld 8 (zR 2)), zI 10 (.fld 1 (zR 9)), zL 11 10, zI 12 (.bin .sub (zR 8) (zR 11)), zI 13 (.fld 0 (zR 2)), zI 14
 (.fld 4 (zR 13)), zL 15 14, zI 16 (.bin .mul (zR 12) (zR 15)), zI 17 (.bin .sub (zR 7) (zR 16)), zI 18 (.fld 8 (zR 2)), zI 19 (.fld 2 (zR 18)), zN (.store 1 (zR 19) (zR 17))] (zQ [zM 20 1, zI 21 (.fld 8 (zR 2)), zI 22
 (.fld 1 (zR 21)), zN (.store 1 (zR 22) (zR 20))] (zQ [zI 23 (.load true 13 (zR 2)), zN (.store 13 (zR 4) (zR 23))] .ret))))
theorem low166 : lowF Tryz.prog [] Tryz.f166 = some (24, lc166.strip, [.cell 4 true 13]) := by kernel_rfl
theorem fn166 : FnOk Tryz.prog 166 24 lc166 [.cell 4 true 13] := ⟨Tryz.call166, [], _, Tryz.func166, low166⟩
def lc167 : LCode :=
 (zQ [zI 1 (.boxS (zR 0)), zI 2 (.alloc [(.int .i64 0), (.int .i64 0)])] (.seq (.regionD [zI 4 (.load true 13 (zR 1)), zI 5 (.fld 0 (zR 1)), zI 6 (.fld 2 (zR 5)), zL 7 6, zI 8 (.fld 8 (zR 1)), zI 9 (.fld 0 (zR 8)), zL 10
 9, zI 11 (.idx 1 (zR 7) (zR 10)), zL 12 11, zI 13 (.fld 8 (zR 1)), zI 14 (.fld 1 (zR 13)), zL 15 14, zI 16 (zC 227 [(zR 4), (zR 12), (zR 15)]), zM 3 16] [0, 0, 2, 6, 0, 16, 48, 126, 254, 0, 512, 1536, 4095, 8191] [0, 1,
 2, 3, 4, 5, 6, 7, 8, 9, 10, 11, 12, 13]) (zQ [zM 17 3, zM 18 3, zI 19 (.fld 0 (zR 1)), zI 20 (.fld 5 (zR 19)), zL 21 20, zI 22 (.bin .mul (zR 18) (zR 21)), zI 23 (.build [(.int .i64 0), (.int .i64 0)] [(0, 1, (zR 17)),
 (1, 1, (zR 22))]), zN (.store 2 (zR 2) (zR 23))] .ret)))
theorem low167 : lowF Tryz.prog [1] Tryz.f167 = some (24, lc167.strip, [.cell 2 true 2]) := by kernel_rfl
theorem fn167 : FnOk Tryz.prog 167 24 lc167 [.cell 2 true 2] := ⟨Tryz.call167, [1], _, Tryz.func167, low167⟩
def lc168 : LCode :=
 (zQ [zI 6 (.mv (zB false))] (zQ [zM 7 1, zM 8 0, zI 9 (.bin .leq (zR 7) (zR 8)), zM 10 9, zT 11 10 (.mv (zR 0)), zT 12 10 (.mv (zR 2)), zT 13 10 (.bin .leq (zR 11) (zR 12)), zI 14 (.pick (zR 10) (zR 13) (zB false)), zM 6
 14] .ret))
theorem low168 : lowF Tryz.prog [] Tryz.f168 = some (15, lc168.strip, [.tmp 6]) := by kernel_rfl
theorem fn168 : FnOk Tryz.prog 168 15 lc168 [.tmp 6] := ⟨Tryz.call168, [], _, Tryz.func168, low168⟩
def lc169 : LCode :=
 (zQ [zI 2 (.boxS (zR 0)), zI 3 (.box (zR 1)), zI 4 (.mv (.const (.slice none 0 0)))] (zQ [zI 8 (.fld 0 (zR 2)), zL 9 8, zI 10 (.len (zR 9)), zI 11 (.make true 4 1 1 [(.bool false)] (zR 10)), zI 5 (.alloc [(.slice none 0
 0)]), zN (.store 1 (zR 5) (zR 11))] (.seq (zQ [zI 12 (.fld 0 (zR 2)), zL 13 12, zI 14 (.len (zR 13)), zI 15 (.mv (zK 0))] (.block 0 (.loop (zQ [zI 16 (.bin .lss (zR 15) (zR 14))] (.seq (.cond (zR 16) .skip (.exit 0))
 (.seq (.block 1 (zQ [zM 17 15, zI 18 (.idx 9 (zR 13) (zR 15)), zI 19 (.load true 9 (zR 18)), ⟨some 7, .alloc [(.string ⟨#[]⟩), (.int .i64 0), (.int .i64 0), (.int .i64 0), (.int .i64 0), (.int .i64 0), (.int .i64 0),
 (.int .i64 0), (.slice none 0 0)], none⟩, zM 6 17, zN (.store 9 (zR 7) (zR 19))] (.regionD [zL 20 5, zM 21 6, zI 22 (.fld 8 (zR 7)), zL 23 22, zI 24 (.mkfn 228 [(zR 3), (zR 5)]), zI 25 (zC 158 [(zR 23), (zR 24)]), zI 26
 (.idx 1 (zR 20) (zR 21)), zN (.store 1 (zR 26) (zR 25))] [0, 0, 0, 4, 0, 28, 63, 127] [0, 1, 2, 3, 4, 5, 6, 7]))) (.region [zI 27 (.bin .add (zR 15) (zK 1)), zM 15 27]))))))) (zQ [zL 28 5, zM 4 28] .ret))))
theorem low169 : lowF Tryz.prog [2, 11] Tryz.f169 = some (29, lc169.strip, [.tmp 4]) := by kernel_rfl
theorem fn169 : FnOk Tryz.prog 169 29 lc169 [.tmp 4] := ⟨Tryz.call169, [2, 11], _, Tryz.func169, low169⟩
def lc170 : LCode :=
 (zQ [zI 4 (.mv (zB false))] (zQ [zM 5 0, zL 6 1, zI 7 (.bin .neq (zR 5) (zR 6)), zM 8 7, zT 9 8 (.load false 1 (zR 2)), zT 10 8 (.mv (zR 0)), zT 11 8 (.idx 1 (zR 9) (zR 10)), zT 12 8 (.load false 1 (zR 11)), zT 13 8 (.un
 .not (zR 12)), zI 14 (.pick (zR 8) (zR 13) (zB false)), zM 4 14] .ret))
theorem low170 : lowF Tryz.prog [] Tryz.f170 = some (15, lc170.strip, [.tmp 4]) := by kernel_rfl
theorem fn170 : FnOk Tryz.prog 170 15 lc170 [.tmp 4] := ⟨Tryz.call170, [], _, Tryz.func170, low170⟩
def lc171 : LCode :=
 (zQ [zI 1 (.box (zR 0)), zI 2 (.mv (zK 0)), zI 3 (.mv (zK 0))] (.seq (zQ [zI 16 (.fld 0 (zR 1)), zL 17 16, zI 18 (zC 113 [(zR 17)]), zM 15 18, zI 19 (.ext (zR 15) 0), zI 20 (.ext (zR 15) 1), zM 4 19, zM 5 20] (zQ [zM 21
 5, zI 22 (.bin .neq (zR 21) (zK 0))] (.cond (zR 22) (zQ [zM 23 4, zM 24 5, zM 2 23, zM 3 24] .ret) .skip))) (zQ [zI 25 (.fld 2 (zR 1)), zL 26 25, zI 27 (.len (zR 26)), zI 6 (.alloc [(.int .i64 0)]), zN (.store 1 (zR 6)
 (zR 27))] (.seq (.seq (.regionD [zL 28 6, zI 29 (.bin .gtr (zR 28) (zK 0)), zI 30 (zC 152 [(zR 29), (zK 10)]), zL 31 6, zI 32 (.bin .leq (zR 31) (zK 5)), zI 33 (zC 152 [(zR 32), (zK 8)]), zI 34 (.fld 1 (zR 1)), zL 35 34,
 zI 36 (.len (zR 35)), zL 37 6, zI 38 (.bin .eql (zR 36) (zR 37)), zI 39 (zC 152 [(zR 38), (zK 10)]), zI 40 (.lit false 34 1 [(zR 30), (zR 33), (zR 39)]), zI 41 (zC 151 [(zR 40)]), zM 7 41] [0, 1, 3, 0, 8, 31, 0, 64, 192,
 0, 960, 2047, 4095, 8191, 16383] [0, 1, 2, 3, 4, 5, 6, 7, 8, 9, 10, 11, 12, 13, 14]) (zQ [zM 42 7, zI 43 (.bin .neq (zR 42) (zK 0))] (.cond (zR 43) (zQ [zM 44 7, zI 2 (.mv (zK 0)), zM 3 44] .ret) .skip))) (.seq (zQ [zI
 46 (.fld 2 (zR 1)), zL 47 46, zI 48 (.mkfn 229 [(zR 1), (zR 6)]), zI 49 (zC 220 [(zR 47), (zR 48)]), zM 45 49, zI 50 (.ext (zR 45) 0), zI 51 (.ext (zR 45) 1), zM 8 50, zM 9 51] (zQ [zM 52 9, zI 53 (.bin .neq (zR 52) (zK
 0))] (.cond (zR 53) (zQ [zM 54 8, zM 55 9, zM 2 54, zM 3 55] .ret) .skip))) (.seq (zQ [zI 57 (.fld 0 (zR 1)), zL 58 57, zI 59 (.mkfn 231 [(zR 6)]), zI 60 (zC 199 [(zR 58), (zR 59)]), zM 56 60, zI 61 (.ext (zR 56) 0), zI
 62 (.ext (zR 56) 1), zM 10 61, zM 11 62] (zQ [zM 63 11, zI 64 (.bin .neq (zR 63) (zK 0))] (.cond (zR 64) (zQ [zM 65 10, zM 66 11, zM 2 65, zM 3 66] .ret) .skip))) (.seq (zQ [zI 67 (.fld 3 (zR 1)), zL 68 67, zI 69 (.len
 (zR 68)), zI 70 (.bin .gtr (zR 69) (zK 6))] (.cond (zR 70) (zQ [zI 2 (.mv (zK 0)), zI 3 (.mv (zK 8))] .ret) .skip)) (zQ [zI 12 (.alloc [(.int .i64 0)]), zN (.store 1 (zR 12) (zK (-1)))] (.seq (zQ [zI 72 (.fld 3 (zR 1)),
 zL 73 72, zI 74 (.mkfn 233 [(zR 12)]), zI 75 (zC 232 [(zR 73), (zR 74)]), zM 71 75, zI 76 (.ext (zR 71) 0), zI 77 (.ext (zR 71) 1), zM 13 76, zM 14 77] (zQ [zM 78 14, zI 79 (.bin .neq (zR 78) (zK 0))] (.cond (zR 79) (zQ
 [zM 80 13, zM 81 14, zM 2 80, zM 3 81] .ret) .skip))) (zQ [zI 82 (.fld 4 (zR 1)), zL 83 82, zI 84 (zC 154 [(zR 83)]), zM 85 84, zT 86 85 (.fld 5 (zR 1)), zT 87 85 (.load false 1 (zR 86)), zT 88 85 (zC 154 [(zR 87)]), zI
 89 (.pick (zR 85) (zR 88) (zB false)), zM 90 89, zT 91 90 (.fld 6 (zR 1)), zT 92 90 (.load false 1 (zR 91)), zT 93 90 (zC 154 [(zR 92)]), zI 94 (.pick (zR 90) (zR 93) (zB false)), zM 95 94, zT 96 95 (.fld 7 (zR 1)), zT
 97 95 (.load false 1 (zR 96)), zT 98 95 (zC 234 [(zR 97)]), zI 99 (.pick (zR 95) (zR 98) (zB false)), zI 100 (zC 152 [(zR 99), (zK 2)]), zI 2 (.mv (zK 0)), zM 3 100] .ret))))))))))
theorem low171 : lowF Tryz.prog [] Tryz.f171 = some (101, lc171.strip, [.tmp 2, .tmp 3]) := by kernel_rfl
theorem fn171 : FnOk Tryz.prog 171 101 lc171 [.tmp 2, .tmp 3] := ⟨Tryz.call171, [], _, Tryz.func171, low171⟩
def lc172 : LCode :=
 (zQ [zI 1 (.boxS (zR 0)), zI 2 (.mv (zK 0))] (zQ [zI 4 (.fld 0 (zR 1)), zI 5 (.fld 0 (zR 4)), zL 6 5, zI 7 (zC 234 [(zR 6)]), zM 8 7, zT 9 8 (.fld 0 (zR 1)), zT 10 8 (.fld 1 (zR 9)), zT 11 8 (.load false 1 (zR 10)), zT
 12 8 (zC 234 [(zR 11)]), zI 13 (.pick (zR 8) (zR 12) (zB false)), zM 14 13, zT 15 14 (.fld 2 (zR 1)), zT 16 14 (.load false 1 (zR 15)), zT 17 14 (zC 168 [(zR 16), (zK 1), (zK 6)]), zI 18 (.pick (zR 14) (zR 17) (zB
 false)), zM 19 18, zT 20 19 (.fld 3 (zR 1)), zT 21 19 (.load false 1 (zR 20)), zT 22 19 (zC 168 [(zR 21), (zK 1), (zK 10000)]), zI 23 (.pick (zR 19) (zR 22) (zB false)), zM 24 23, zT 25 24 (.fld 4 (zR 1)), zT 26 24
 (.load false 1 (zR 25)), zT 27 24 (zC 154 [(zR 26)]), zI 28 (.pick (zR 24) (zR 27) (zB false)), zM 3 28] (.seq (.regionD [zM 29 3, zI 30 (zC 152 [(zR 29), (zK 2)]), zI 31 (.fld 0 (zR 1)), zI 32 (.fld 0 (zR 31)), zL 33
 32, zI 34 (.fld 0 (zR 1)), zI 35 (.fld 1 (zR 34)), zL 36 35, zI 37 (.bin .leq (zR 33) (zR 36)), zI 38 (zC 152 [(zR 37), (zK 9)]), zI 39 (.lit false 34 1 [(zR 30), (zR 38)]), zI 40 (zC 151 [(zR 39)]), zM 2 40] [0, 1, 0,
 4, 12, 0, 32, 96, 252, 511, 1023, 2047, 4095] [0, 1, 2, 3, 4, 5, 6, 7, 8, 9, 10, 11, 12]) .ret)))
theorem low172 : lowF Tryz.prog [1] Tryz.f172 = some (41, lc172.strip, [.tmp 2]) := by kernel_rfl
theorem fn172 : FnOk Tryz.prog 172 41 lc172 [.tmp 2] := ⟨Tryz.call172, [1], _, Tryz.func172, low172⟩
def ra173 : LCode :=
 (.region [zI 7 (.alloc [(.int .i64 0), (.int .i64 0), (.int .i64 0)]), zN (.store 3 (zR 7) (zR 11))])
def rb173 : LCode :=
 (.block 1 (zQ [zI 12 (.fld 0 (zR 7)), zL 13 12, zI 14 (.fld 0 (zR 3)), zL 15 14, zI 16 (.bin .eql (zR 13) (zR 15))] (.cond (zR 16) (zQ [zI 17 (.fld 1 (zR 3)), zI 18 (.fld 0 (zR 17)), zL 19 18, zI 20 (.fld 1 (zR 7)), zI
 21 (.fld 1 (zR 20)), zL 22 21, zI 23 (.bin .sub (zR 19) (zR 22)), zI 24 (.bin .sub (zR 23) (zK 1)), zN (.store 1 (zR 4) (zR 24)), zN (.store 1 (zR 5) (zB true))] .ret) .skip)))
def lc173 : LCode :=
 (zQ [zI 3 (.boxS (zR 1)), zI 4 (.alloc [(.int .i64 0)]), zI 5 (.alloc [(.bool false)])] (.seq (zQ [zM 8 0, zI 9 (zC 235 [(zR 8)])] (.block 0 (.rangeFunc (zR 9) [10, 11] ra173 rb173))) (zQ [zN (.store 1 (zR 4) (zK 0)), zN
 (.store 1 (zR 5) (zB false))] .ret)))
theorem low173 : lowF Tryz.prog [3] Tryz.f173 = some (25, lc173.strip, [.cell 4 false 1, .cell 5 false 1]) := by kernel_rfl
theorem fn173 : FnOk Tryz.prog 173 25 lc173 [.cell 4 false 1, .cell 5 false 1] := ⟨Tryz.call173, [3], _, Tryz.func173, low173⟩
def lc174 : LCode :=
 (zQ [zI 4 (.mv (zK 0)), zI 5 (.mv (zK 0))] (.seq (zQ [zM 9 0, zI 10 (.len (zR 9)), zI 11 (.mv (zK 0))] (.block 0 (.loop (zQ [zI 12 (.bin .lss (zR 11) (zR 10))] (.seq (.cond (zR 12) .skip (.exit 0)) (.seq (.block 1 (zQ
 [zM 13 11, zI 14 (.idx 3 (zR 9) (zR 11)), zI 15 (.load true 3 (zR 14)), zI 7 (.alloc [(.int .i64 0), (.int .i64 0), (.int .i64 0)]), zM 6 13, zN (.store 3 (zR 7) (zR 15))] (zQ [zM 16 1, zM 17 6, zI 18 (.load true 3 (zR
 7)), zI 19 (.call (zR 16) [(zR 17), (zR 18)]), zM 8 19] (zQ [zM 20 8, zI 21 (.bin .neq (zR 20) (zK 0))] (.cond (zR 21) (zQ [zM 22 6, zM 23 8, zM 4 22, zM 5 23] .ret) .skip))))) (.region [zI 24 (.bin .add (zR 11) (zK 1)),
 zM 11 24]))))))) (zQ [zI 4 (.mv (zK 0)), zI 5 (.mv (zK 0))] .ret)))
theorem low174 : lowF Tryz.prog [] Tryz.f174 = some (25, lc174.strip, [.tmp 4, .tmp 5]) := by kernel_rfl
theorem fn174 : FnOk Tryz.prog 174 25 lc174 [.tmp 4, .tmp 5] := ⟨Tryz.call174, [], _, Tryz.func174, low174⟩
def lc175 : LCode :=
 (zQ [zI 6 (.boxS (zR 1)), zI 7 (.mv (zK 0))] (.seq (.regionD [zI 11 (.fld 0 (zR 6)), zL 12 11, zI 13 (.fld 2 (zR 2)), zL 14 13, zI 15 (.bin .sub (zR 14) (zK 1)), zI 16 (zC 168 [(zR 12), (zK 0), (zR 15)]), zI 17 (zC 152
 [(zR 16), (zK 6)]), zI 18 (.fld 1 (zR 6)), zI 19 (.fld 0 (zR 18)), zL 20 19, zL 21 3, zI 22 (.bin .eql (zR 20) (zR 21)), zI 23 (zC 152 [(zR 22), (zK 13)]), zI 24 (.fld 1 (zR 6)), zI 25 (.fld 1 (zR 24)), zL 26 25, zI 27
 (.fld 1 (zR 6)), zI 28 (.fld 0 (zR 27)), zL 29 28, zI 30 (.fld 0 (zR 2)), zI 31 (.fld 1 (zR 30)), zL 32 31, zI 33 (zC 168 [(zR 26), (zR 29), (zR 32)]), zI 34 (zC 152 [(zR 33), (zK 2)]), zI 35 (.lit false 34 1 [(zR 17),
 (zR 23), (zR 34)]), zI 36 (zC 151 [(zR 35)]), zM 8 36] [0, 1, 0, 4, 12, 31, 63, 0, 128, 384, 0, 1920, 4095, 0, 8192, 24576, 0, 65536, 196608, 0, 524288, 1572864, 4194303, 8388607, 16777215, 33554431, 67108863] [0, 1, 2,
 3, 4, 5, 6, 7, 8, 9, 10, 11, 12, 13, 14, 15, 16, 17, 18, 19, 20, 21, 22, 23, 24, 25, 26]) (.seq (zQ [zM 37 8, zI 38 (.bin .neq (zR 37) (zK 0))] (.cond (zR 38) (zQ [zM 39 8, zM 7 39] .ret) .skip)) (zQ [zI 40 (.fld 1 (zR
 6)), zI 41 (.fld 1 (zR 40)), zL 42 41, zI 43 (.bin .add (zR 42) (zK 1)), zN (.store 1 (zR 3) (zR 43))] (.seq (.regionD [zL 45 4, zM 46 0, zI 47 (.slc 3 (zR 45) none (some (zR 46))), zI 48 (.load true 3 (zR 6)), zI 49 (zC
 173 [(zR 47), (zR 48)]), zM 44 49, zI 50 (.ext (zR 44) 0), zI 51 (.ext (zR 44) 1), zM 9 50, zM 10 51] [0, 0, 3, 0, 15, 31, 63, 63, 127, 511] [0, 1, 2, 3, 4, 5, 6, 7, 8, 9]) (zQ [zL 52 3, zI 53 (.fld 1 (zR 6)), zI 54
 (.fld 0 (zR 53)), zL 55 54, zI 56 (.bin .sub (zR 52) (zR 55)), zI 57 (.fld 3 (zR 2)), zL 58 57, zI 59 (.bin .leq (zR 56) (zR 58)), zI 60 (zC 152 [(zR 59), (zK 22)]), zM 61 10, zI 62 (.un .not (zR 61)), zM 63 62, zF 64 63
 (.mv (zR 9)), zF 65 63 (.fld 4 (zR 2)), zF 66 63 (.load false 1 (zR 65)), zF 67 63 (.bin .geq (zR 64) (zR 66)), zI 68 (.pick (zR 63) (zB true) (zR 67)), zI 69 (zC 152 [(zR 68), (zK 24)]), zI 70 (.lit false 34 1 [(zR 60),
 (zR 69)]), zI 71 (zC 151 [(zR 70)]), zM 7 71] .ret))))))
theorem low175 : lowF Tryz.prog [6] Tryz.f175 = some (72, lc175.strip, [.tmp 7]) := by kernel_rfl
theorem fn175 : FnOk Tryz.prog 175 72 lc175 [.tmp 7] := ⟨Tryz.call175, [6], _, Tryz.func175, low175⟩
def lc186 : LCode :=
 (zQ [zI 4 (.mv (zB false))] (zQ [zM 5 0, zM 6 1, zI 7 (zC 250 [(zR 5), (zR 6)]), zI 8 (.bin .geq (zR 7) (zK 0)), zM 4 8] .ret))
theorem low186 : lowF Tryz.prog [] Tryz.f186 = some (9, lc186.strip, [.tmp 4]) := by kernel_rfl
theorem fn186 : FnOk Tryz.prog 186 9 lc186 [.tmp 4] := ⟨Tryz.call186, [], _, Tryz.func186, low186⟩
def lc196 : LCode :=
 (zQ [zI 2 (.boxS (zR 0)), zI 4 (.alloc [(.slice none 0 0), (.slice none 0 0), (.slice none 0 0), (.slice none 0 0), (.int .i64 0), (.int .i64 0), (.int .i64 0), (.int .i64 0), (.int .i64 0), (.int .i64 0), (.int .i64 0),
 (.int .i64 0), (.slice none 0 0)]), zI 5 (.mv (zK 0))] (.seq (zQ [zM 8 1, zI 9 (.fld 0 (zR 2)), zI 10 (.fld 0 (zR 9)), zL 11 10, zI 12 (.len (zR 11)), zI 13 (.bin .sub (zR 12) (zK 1)), zI 14 (zC 168 [(zR 8), (zK 0), (zR
 13)]), zI 15 (.un .not (zR 14))] (.cond (zR 15) (zQ [zI 16 (.load true 13 (zR 2)), zN (.store 13 (zR 4) (zR 16)), zI 5 (.mv (zK 6))] .ret) .skip)) (zQ [zI 17 (.fld 0 (zR 2)), zI 18 (.fld 0 (zR 17)), zL 19 18, zM 20 1, zI
 21 (.idx 9 (zR 19) (zR 20)), zI 22 (.fld 8 (zR 21)), zL 23 22, zI 24 (.mkfn 254 [(zR 2)]), zI 25 (zC 158 [(zR 23), (zR 24)]), zM 6 25] (.seq (zQ [zI 26 (.load true 13 (zR 2)), zM 27 1, zI 28 (zC 144 [(zR 26), (zR 27)]),
 zI 29 (.un .not (zR 28)), zI 30 (zC 152 [(zR 29), (zK 23)]), zM 31 6, zI 32 (.un .not (zR 31)), zI 33 (zC 152 [(zR 32), (zK 9)]), zI 34 (.lit false 34 1 [(zR 30), (zR 33)]), zI 35 (zC 151 [(zR 34)]), zM 7 35] (zQ [zM 36
 7, zI 37 (.bin .neq (zR 36) (zK 0))] (.cond (zR 37) (zQ [zI 38 (.load true 13 (zR 2)), zM 39 7, zN (.store 13 (zR 4) (zR 38)), zM 5 39] .ret) .skip))) (zQ [zI 40 (.load true 13 (zR 2)), zM 41 1, zI 42 (zC 225 [(zR 40),
 (zR 41)]), zI 43 (.ext (zR 42) 0), zI 44 (.ext (zR 42) 1), zN (.store 13 (zR 4) (zR 43)), zM 5 44] .ret)))))
theorem low196 : lowF Tryz.prog [2] Tryz.f196 = some (45, lc196.strip, [.cell 4 true 13, .tmp 5]) := by kernel_rfl
theorem fn196 : FnOk Tryz.prog 196 45 lc196 [.cell 4 true 13, .tmp 5] := ⟨Tryz.call196, [2], _, Tryz.func196, low196⟩
def lc197 : LCode :=
 (zQ [zI 3 (.box (zR 0)), zI 4 (.box (zR 1)), zI 5 (.box (zR 2)), zI 6 (.mv (.const .nilFunc))] (zQ [zI 7 (.mkfn 255 [(zR 4), (zR 3), (zR 5)]), zM 6 7] .ret))
theorem low197 : lowF Tryz.prog [] Tryz.f197 = some (8, lc197.strip, [.tmp 6]) := by kernel_rfl
theorem fn197 : FnOk Tryz.prog 197 8 lc197 [.tmp 6] := ⟨Tryz.call197, [], _, Tryz.func197, low197⟩
def lc199 : LCode :=
 (zQ [zI 4 (.mv (zK 0)), zI 5 (.mv (zK 0))] (.seq (zQ [zM 9 0, zI 10 (.len (zR 9)), zI 11 (.mv (zK 0))] (.block 0 (.loop (zQ [zI 12 (.bin .lss (zR 11) (zR 10))] (.seq (.cond (zR 12) .skip (.exit 0)) (.seq (.block 1 (zQ
 [zM 13 11, zI 14 (.idx 9 (zR 9) (zR 11)), zI 15 (.load true 9 (zR 14)), ⟨some 7, .alloc [(.string ⟨#[]⟩), (.int .i64 0), (.int .i64 0), (.int .i64 0), (.int .i64 0), (.int .i64 0), (.int .i64 0), (.int .i64 0), (.slice
 none 0 0)], none⟩, zM 6 13, zN (.store 9 (zR 7) (zR 15))] (zQ [zM 16 1, zM 17 6, zI 18 (.load true 9 (zR 7)), zI 19 (.call (zR 16) [(zR 17), (zR 18)]), zM 8 19] (zQ [zM 20 8, zI 21 (.bin .neq (zR 20) (zK 0))] (.cond (zR
 21) (zQ [zM 22 6, zM 23 8, zM 4 22, zM 5 23] .ret) .skip))))) (.region [zI 24 (.bin .add (zR 11) (zK 1)), zM 11 24]))))))) (zQ [zI 4 (.mv (zK 0)), zI 5 (.mv (zK 0))] .ret)))
theorem low199 : lowF Tryz.prog [] Tryz.f199 = some (25, lc199.strip, [.tmp 4, .tmp 5]) := by kernel_rfl
theorem fn199 : FnOk Tryz.prog 199 25 lc199 [.tmp 4, .tmp 5] := ⟨Tryz.call199, [], _, Tryz.func199, low199⟩
def lc200 : LCode :=
 (zQ [zI 4 (.boxS (zR 1)), zI 5 (.mv (zK 0))] (zQ [zL 9 2, zM 10 0, zI 11 (.slc 9 (zR 9) none (some (zR 10))), zI 12 (.mkfn 202 [(zR 4)]), zI 13 (zC 201 [(zR 11), (zR 12)]), zM 6 13] (zQ [zI 14 (.fld 2 (zR 4)), zL 15 14,
 zI 16 (.fld 3 (zR 4)), zL 17 16, zI 18 (.fld 4 (zR 4)), zL 19 18, zI 20 (.fld 5 (zR 4)), zL 21 20, zI 22 (.lit false 3 1 [(zR 15), (zR 17), (zR 19), (zR 21)]), zI 23 (zC 158 [(zR 22), (.func 203)]), zM 7 23] (.seq (.seq
 (.regionD [zI 24 (.fld 0 (zR 4)), zL 25 24, zI 26 (zC 204 [(zR 25)]), zI 27 (zC 152 [(zR 26), (zK 4)]), zM 28 6, zI 29 (.un .not (zR 28)), zI 30 (zC 152 [(zR 29), (zK 5)]), zI 31 (.fld 1 (zR 4)), zL 32 31, zI 33 (zC 168
 [(zR 32), (zK 0), (zK 4)]), zM 34 33, zT 35 34 (.mv (zR 7)), zT 36 34 (.un .not (zR 35)), zI 37 (.pick (zR 34) (zR 36) (zB false)), zI 38 (zC 152 [(zR 37), (zK 2)]), zI 39 (.fld 6 (zR 4)), zI 40 (.load true 2 (zR 39)),
 zI 41 (zC 205 [(zR 40)]), zI 42 (.lit false 34 1 [(zR 27), (zR 30), (zR 38), (zR 41)]), zI 43 (zC 151 [(zR 42)]), zM 8 43] [0, 1, 3, 7, 0, 16, 63, 0, 128, 511, 1023, 2047, 4095, 8191, 16383, 0, 32768, 131071, 262143,
 524287, 1048575] [0, 1, 2, 3, 4, 5, 6, 7, 8, 9, 10, 11, 12, 13, 14, 15, 16, 17, 18, 19, 20]) (zQ [zM 44 8, zI 45 (.bin .neq (zR 44) (zK 0))] (.cond (zR 45) (zQ [zM 46 8, zM 5 46] .ret) .skip))) (zQ [zI 47 (.fld 8 (zR
 4)), zL 48 47, zM 49 0, zI 50 (zC 206 [(zR 48), (zR 49)]), zM 5 50] .ret)))))
theorem low200 : lowF Tryz.prog [4] Tryz.f200 = some (51, lc200.strip, [.tmp 5]) := by kernel_rfl
theorem fn200 : FnOk Tryz.prog 200 51 lc200 [.tmp 5] := ⟨Tryz.call200, [4], _, Tryz.func200, low200⟩
def lc201 : LCode :=
 (zQ [zI 4 (.mv (zB false))] (zQ [zM 5 0, zM 6 1, zI 7 (zC 258 [(zR 5), (zR 6)]), zI 8 (.bin .geq (zR 7) (zK 0)), zM 4 8] .ret))
theorem low201 : lowF Tryz.prog [] Tryz.f201 = some (9, lc201.strip, [.tmp 4]) := by kernel_rfl
theorem fn201 : FnOk Tryz.prog 201 9 lc201 [.tmp 4] := ⟨Tryz.call201, [], _, Tryz.func201, low201⟩
def lc202 : LCode :=
 (zQ [zI 2 (.boxS (zR 0)), zI 3 (.mv (zB false))] (zQ [zI 4 (.fld 0 (zR 2)), zL 5 4, zI 6 (.fld 0 (zR 1)), zL 7 6, zI 8 (.eqS false (zR 5) (zR 7)), zM 3 8] .ret))
theorem low202 : lowF Tryz.prog [2] Tryz.f202 = some (9, lc202.strip, [.tmp 3]) := by kernel_rfl
theorem fn202 : FnOk Tryz.prog 202 9 lc202 [.tmp 3] := ⟨Tryz.call202, [2], _, Tryz.func202, low202⟩
def lc203 : LCode :=
 (zQ [zI 2 (.mv (zB false))] (zQ [zM 3 0, zI 4 (zC 154 [(zR 3)]), zI 5 (.un .not (zR 4)), zM 2 5] .ret))
theorem low203 : lowF Tryz.prog [] Tryz.f203 = some (6, lc203.strip, [.tmp 2]) := by kernel_rfl
theorem fn203 : FnOk Tryz.prog 203 6 lc203 [.tmp 2] := ⟨Tryz.call203, [], _, Tryz.func203, low203⟩
def lc204 : LCode :=
 (zQ [zI 2 (.mv (zB false))] (.seq (zQ [zM 6 0, zI 7 (.lenS (zR 6)), zI 8 (.mv (zK 0))] (.block 0 (.loop (zQ [zI 9 (.bin .lss (zR 8) (zR 7))] (.seq (.cond (zR 9) .skip (.exit 0)) (.seq (.block 1 (zQ [zM 10 8, zM 3 10] (zQ
 [zM 11 0, zM 12 3, zI 13 (.indexS (zR 11) (zR 12)), zM 4 13] (zQ [zM 14 4, zI 15 (.bin .geq (zR 14) (.const (.int .u8 97))), zM 16 15, zT 17 16 (.mv (zR 4)), zT 18 16 (.bin .leq (zR 17) (.const (.int .u8 122))), zI 19
 (.pick (zR 16) (zR 18) (zB false)), zM 20 19, zF 21 20 (.mv (zR 4)), zF 22 20 (.bin .geq (zR 21) (.const (.int .u8 65))), zF 23 20 (.mv (zR 22)), zT 24 23 (.mv (zR 4)), zT 25 23 (.bin .leq (zR 24) (.const (.int .u8
 90))), zF 26 20 (.pick (zR 23) (zR 25) (zB false)), zI 27 (.pick (zR 20) (zB true) (zR 26)), zM 5 27] (zQ [zM 28 5, zI 29 (.un .not (zR 28)), zM 30 29, zT 31 30 (.mv (zR 3)), zT 32 30 (.bin .eql (zR 31) (zK 0)), zT 33 30
 (.mv (zR 32)), zF 34 33 (.mv (zR 4)), zF 35 33 (.bin .neq (zR 34) (.const (.int .u8 45))), zF 36 33 (.mv (zR 35)), zT 37 36 (.mv (zR 4)), zT 38 36 (.bin .lss (zR 37) (.const (.int .u8 48))), zT 39 36 (.mv (zR 38)), zF 40
 39 (.mv (zR 4)), zF 41 39 (.bin .gtr (zR 40) (.const (.int .u8 57))), zT 42 36 (.pick (zR 39) (zB true) (zR 41)), zF 43 33 (.pick (zR 36) (zR 42) (zB false)), zT 44 30 (.pick (zR 33) (zB true) (zR 43)), zI 45 (.pick (zR
 30) (zR 44) (zB false))] (.cond (zR 45) (zQ [zI 2 (.mv (zB false))] .ret) .skip)))))) (.region [zI 46 (.bin .add (zR 8) (zK 1)), zM 8 46]))))))) (zQ [zM 47 0, zI 48 (.lenS (zR 47)), zI 49 (zC 168 [(zR 48), (zK 1), (zK
 12)]), zM 2 49] .ret)))
theorem low204 : lowF Tryz.prog [] Tryz.f204 = some (50, lc204.strip, [.tmp 2]) := by kernel_rfl
theorem fn204 : FnOk Tryz.prog 204 50 lc204 [.tmp 2] := ⟨Tryz.call204, [], _, Tryz.func204, low204⟩
def lc205 : LCode :=
 (zQ [zI 1 (.boxS (zR 0)), zI 2 (.mv (zK 0))] (.seq (.regionD [zI 3 (.fld 0 (zR 1)), zL 4 3, zI 5 (zC 234 [(zR 4)]), zM 6 5, zT 7 6 (.fld 1 (zR 1)), zT 8 6 (.load false 1 (zR 7)), zT 9 6 (zC 234 [(zR 8)]), zI 10 (.pick
 (zR 6) (zR 9) (zB false)), zI 11 (zC 152 [(zR 10), (zK 2)]), zI 12 (.fld 0 (zR 1)), zL 13 12, zI 14 (.fld 1 (zR 1)), zL 15 14, zI 16 (.bin .leq (zR 13) (zR 15)), zI 17 (zC 152 [(zR 16), (zK 9)]), zI 18 (.lit false 34 1
 [(zR 11), (zR 17)]), zI 19 (zC 151 [(zR 18)]), zM 2 19] [0, 1, 3, 7, 15, 31, 63, 127, 255, 0, 512, 0, 2048, 7680, 16383, 32767, 65535, 131071] [0, 1, 2, 3, 4, 5, 6, 7, 8, 9, 10, 11, 12, 13, 14, 15, 16, 17]) .ret))
theorem low205 : lowF Tryz.prog [1] Tryz.f205 = some (20, lc205.strip, [.tmp 2]) := by kernel_rfl
theorem fn205 : FnOk Tryz.prog 205 20 lc205 [.tmp 2] := ⟨Tryz.call205, [1], _, Tryz.func205, low205⟩
def lc206 : LCode :=
 (zQ [zI 4 (.mv (zK 0))] (zQ [zM 8 0, zM 9 1, zI 10 (zC 259 [(zR 8), (zR 9)]), zM 7 10, zI 11 (.ext (zR 7) 0), zI 12 (.ext (zR 7) 1), zM 5 11, zM 6 12] (zQ [zM 13 6, zM 4 13] .ret)))
theorem low206 : lowF Tryz.prog [] Tryz.f206 = some (14, lc206.strip, [.tmp 4]) := by kernel_rfl
theorem fn206 : FnOk Tryz.prog 206 14 lc206 [.tmp 4] := ⟨Tryz.call206, [], _, Tryz.func206, low206⟩
def lc216 : LCode :=
 (zQ [zI 2 (.boxS (zR 0)), zI 4 (.mv (zB false))] (zQ [zM 5 1, zI 6 (.fld 0 (zR 2)), zL 7 6, zI 8 (.len (zR 7)), zI 9 (.bin .sub (zR 8) (zK 1)), zI 10 (zC 46 [(zR 5), (zK 0), (zR 9)]), zM 4 10] .ret))
theorem low216 : lowF Tryz.prog [2] Tryz.f216 = some (11, lc216.strip, [.tmp 4]) := by kernel_rfl
theorem fn216 : FnOk Tryz.prog 216 11 lc216 [.tmp 4] := ⟨Tryz.call216, [2], _, Tryz.func216, low216⟩
def lc217 : LCode :=
 (zQ [zI 3 (.boxS (zR 0)), zI 6 (.mv (zK 0))] (.seq (zQ [zM 8 1, zI 9 (.bin .eql (zR 8) (zK 0))] (.cond (zR 9) (zQ [zI 6 (.mv (zK 0))] .ret) .skip)) (.seq (zQ [zI 7 (.mv (zK 0))] (.block 0 (.loop (.seq (zQ [zM 10 7, zI 11
 (.fld 3 (zR 3)), zL 12 11, zI 13 (.len (zR 12)), zI 14 (.bin .lss (zR 10) (zR 13))] (.cond (zR 14) .skip (.exit 0))) (.seq (.block 1 (.seq (.regionD [zM 17 2, zI 18 (.fld 3 (zR 3)), zL 19 18, zM 20 7, zI 21 (.idx 3 (zR
 19) (zR 20)), zI 22 (.fld 0 (zR 21)), zI 23 (.fld 0 (zR 22)), zL 24 23, zI 25 (.fld 3 (zR 3)), zL 26 25, zM 27 7, zI 28 (.idx 3 (zR 26) (zR 27)), zI 29 (.fld 0 (zR 28)), zI 30 (.fld 1 (zR 29)), zL 31 30, zI 32 (zC 46
 [(zR 17), (zR 24), (zR 31)])] [0, 0, 2, 0, 14, 30, 62, 126, 0, 256, 0, 1792, 3840, 7936, 16128, 32767] [0, 1, 2, 3, 4, 5, 6, 7, 8, 9, 10, 11, 12, 13, 14, 15]) (.cond (zR 32) (zQ [zM 33 1, zI 34 (.fld 3 (zR 3)), zL 35 34,
 zM 36 7, zI 37 (.idx 3 (zR 35) (zR 36)), zI 38 (.fld 2 (zR 37)), zL 39 38, zI 40 (.bin .add (zR 33) (zR 39)), zM 6 40] .ret) .skip))) (.region [zM 15 7, zI 16 (.bin .add (zR 15) (zK 1)), zM 7 16])))))) (zQ [zM 41 1, zM 6
 41] .ret))))
theorem low217 : lowF Tryz.prog [3] Tryz.f217 = some (42, lc217.strip, [.tmp 6]) := by kernel_rfl
theorem fn217 : FnOk Tryz.prog 217 42 lc217 [.tmp 6] := ⟨Tryz.call217, [3], _, Tryz.func217, low217⟩
def lc218 : LCode :=
 (zQ [zI 2 (.box (zR 0)), zI 3 (.box (zR 1)), zI 4 (.mv (.const .nilFunc))] (zQ [zI 5 (.mkfn 262 [(zR 3), (zR 2)]), zM 4 5] .ret))
theorem low218 : lowF Tryz.prog [] Tryz.f218 = some (6, lc218.strip, [.tmp 4]) := by kernel_rfl
theorem fn218 : FnOk Tryz.prog 218 6 lc218 [.tmp 4] := ⟨Tryz.call218, [], _, Tryz.func218, low218⟩
def lc219 : LCode :=
 (zQ [zI 2 (.boxS (zR 0)), zI 3 (.boxS (zR 1)), zI 4 (.mv (zK 0)), zI 5 (.mv (zK 0))] (zQ [zI 9 (.load true 8 (zR 2)), zI 10 (zC 171 [(zR 9)]), zM 8 10, zI 11 (.ext (zR 8) 0), zI 12 (.ext (zR 8) 1), zM 6 11, zM 7 12]
 (.seq (.seq (.regionD [zM 13 7, zI 14 (.fld 0 (zR 3)), zL 15 14, zI 16 (.fld 2 (zR 2)), zL 17 16, zI 18 (.len (zR 17)), zI 19 (.bin .sub (zR 18) (zK 1)), zI 20 (zC 168 [(zR 15), (zK 0), (zR 19)]), zI 21 (zC 152 [(zR 20),
 (zK 6)]), zI 22 (.fld 1 (zR 3)), zL 23 22, zI 24 (zC 234 [(zR 23)]), zM 25 24, zT 26 25 (.fld 2 (zR 3)), zT 27 25 (.load false 1 (zR 26)), zT 28 25 (zC 168 [(zR 27), (zK 0), (zK 100000000)]), zI 29 (.pick (zR 25) (zR 28)
 (zB false)), zM 30 29, zT 31 30 (.fld 3 (zR 3)), zT 32 30 (.load false 1 (zR 31)), zT 33 30 (zC 154 [(zR 32)]), zI 34 (.pick (zR 30) (zR 33) (zB false)), zI 35 (zC 152 [(zR 34), (zK 2)]), zI 36 (.lit false 34 1 [(zR 13),
 (zR 21), (zR 35)]), zI 37 (zC 151 [(zR 36)]), zM 7 37] [0, 0, 2, 0, 8, 24, 56, 126, 254, 0, 512, 2046, 4094, 8190, 16382, 32766, 65534, 131070, 262142, 524286, 1048574, 2097150, 4194302, 8388607, 16777215, 33554431] [0,
 1, 2, 3, 4, 5, 6, 7, 8, 9, 10, 11, 12, 13, 14, 15, 16, 17, 18, 19, 20, 21, 22, 23, 24, 25]) (zQ [zM 38 7, zI 39 (.bin .neq (zR 38) (zK 0))] (.cond (zR 39) (zQ [zM 40 7, zI 4 (.mv (zK 0)), zM 5 40] .ret) .skip))) (zQ [zI
 41 (.fld 4 (zR 3)), zL 42 41, zI 43 (.fld 0 (zR 2)), zL 44 43, zI 45 (.len (zR 44)), zI 46 (zC 259 [(zR 42), (zR 45)]), zI 47 (.ext (zR 46) 0), zI 48 (.ext (zR 46) 1), zM 4 47, zM 5 48] .ret))))
theorem low219 : lowF Tryz.prog [2, 3] Tryz.f219 = some (49, lc219.strip, [.tmp 4, .tmp 5]) := by kernel_rfl
theorem fn219 : FnOk Tryz.prog 219 49 lc219 [.tmp 4, .tmp 5] := ⟨Tryz.call219, [2, 3], _, Tryz.func219, low219⟩
def lc220 : LCode :=
 (zQ [zI 4 (.mv (zK 0)), zI 5 (.mv (zK 0))] (.seq (zQ [zM 9 0, zI 10 (.len (zR 9)), zI 11 (.mv (zK 0))] (.block 0 (.loop (zQ [zI 12 (.bin .lss (zR 11) (zR 10))] (.seq (.cond (zR 12) .skip (.exit 0)) (.seq (.block 1 (zQ
 [zM 13 11, zI 14 (.idx 1 (zR 9) (zR 11)), zL 15 14, zM 6 13, zM 7 15] (zQ [zM 16 1, zM 17 6, zM 18 7, zI 19 (.call (zR 16) [(zR 17), (zR 18)]), zM 8 19] (zQ [zM 20 8, zI 21 (.bin .neq (zR 20) (zK 0))] (.cond (zR 21) (zQ
 [zM 22 6, zM 23 8, zM 4 22, zM 5 23] .ret) .skip))))) (.region [zI 24 (.bin .add (zR 11) (zK 1)), zM 11 24]))))))) (zQ [zI 4 (.mv (zK 0)), zI 5 (.mv (zK 0))] .ret)))
theorem low220 : lowF Tryz.prog [] Tryz.f220 = some (25, lc220.strip, [.tmp 4, .tmp 5]) := by kernel_rfl
theorem fn220 : FnOk Tryz.prog 220 25 lc220 [.tmp 4, .tmp 5] := ⟨Tryz.call220, [], _, Tryz.func220, low220⟩
def lc222 : LCode :=
 (zQ [zI 4 (.mv (zK 0))] (.seq (zQ [zM 6 0, zI 7 (.len (zR 6)), zI 8 (.mv (zK 0))] (.block 0 (.loop (zQ [zI 9 (.bin .lss (zR 8) (zR 7))] (.seq (.cond (zR 9) .skip (.exit 0)) (.seq (.block 1 (zQ [zM 10 8, zM 5 10] (zQ [zM
 11 1, zM 12 0, zM 13 5, zI 14 (.idx 1 (zR 12) (zR 13)), zL 15 14, zI 16 (.call (zR 11) [(zR 15)])] (.cond (zR 16) (zQ [zM 17 5, zM 4 17] .ret) .skip)))) (.region [zI 18 (.bin .add (zR 8) (zK 1)), zM 8 18]))))))) (zQ [zI
 4 (.mv (zK (-1)))] .ret)))
theorem low222 : lowF Tryz.prog [] Tryz.f222 = some (19, lc222.strip, [.tmp 4]) := by kernel_rfl
theorem fn222 : FnOk Tryz.prog 222 19 lc222 [.tmp 4] := ⟨Tryz.call222, [], _, Tryz.func222, low222⟩
def lc226 : LCode :=
 (zQ [zI 2 (.mv (zB false))] (zQ [zM 3 0, zM 4 0, zI 5 (.bin .neq (zR 3) (zR 4)), zM 2 5] .ret))
theorem low226 : lowF Tryz.prog [] Tryz.f226 = some (6, lc226.strip, [.tmp 2]) := by kernel_rfl
theorem fn226 : FnOk Tryz.prog 226 6 lc226 [.tmp 2] := ⟨Tryz.call226, [], _, Tryz.func226, low226⟩
def lc227 : LCode :=
 (zQ [zI 3 (.boxS (zR 0)), zI 6 (.mv (zK 0))] (.seq (zQ [zM 9 1, zI 10 (.bin .eql (zR 9) (zK 0))] (.cond (zR 10) (zQ [zI 6 (.mv (zK 0))] .ret) .skip)) (.seq (zQ [zI 11 (.fld 0 (zR 3)), zI 12 (.fld 3 (zR 11)), zL 13 12, zI
 14 (.len (zR 13)), zI 15 (.mv (zK 0))] (.block 0 (.loop (zQ [zI 16 (.bin .lss (zR 15) (zR 14))] (.seq (.cond (zR 16) .skip (.exit 0)) (.seq (.block 1 (zQ [zI 17 (.idx 3 (zR 13) (zR 15)), zI 18 (.load true 3 (zR 17)), zI
 8 (.alloc [(.int .i64 0), (.int .i64 0), (.int .i64 0)]), zN (.store 3 (zR 8) (zR 18))] (zQ [zM 19 2, zI 20 (.fld 0 (zR 8)), zI 21 (.fld 0 (zR 20)), zL 22 21, zI 23 (.fld 0 (zR 8)), zI 24 (.fld 1 (zR 23)), zL 25 24, zI
 26 (zC 168 [(zR 19), (zR 22), (zR 25)])] (.cond (zR 26) (zQ [zM 27 1, zI 28 (.fld 2 (zR 8)), zL 29 28, zI 30 (.bin .add (zR 27) (zR 29)), zM 6 30] .ret) .skip)))) (.region [zI 31 (.bin .add (zR 15) (zK 1)), zM 15
 31]))))))) (zQ [zM 32 1, zM 6 32] .ret))))
theorem low227 : lowF Tryz.prog [3] Tryz.f227 = some (33, lc227.strip, [.tmp 6]) := by kernel_rfl
theorem fn227 : FnOk Tryz.prog 227 33 lc227 [.tmp 6] := ⟨Tryz.call227, [3], _, Tryz.func227, low227⟩
def lc228 : LCode :=
 (zQ [zI 4 (.mv (zB false))] (zQ [zM 5 0, zL 6 1, zI 7 (.bin .eql (zR 5) (zR 6)), zM 8 7, zF 9 8 (.load false 1 (zR 2)), zF 10 8 (.mv (zR 0)), zF 11 8 (.idx 1 (zR 9) (zR 10)), zF 12 8 (.load false 1 (zR 11)), zI 13 (.pick
 (zR 8) (zB true) (zR 12)), zM 4 13] .ret))
theorem low228 : lowF Tryz.prog [] Tryz.f228 = some (14, lc228.strip, [.tmp 4]) := by kernel_rfl
theorem fn228 : FnOk Tryz.prog 228 14 lc228 [.tmp 4] := ⟨Tryz.call228, [], _, Tryz.func228, low228⟩
def lc229 : LCode :=
 (zQ [zI 6 (.mv (zK 0))] (zQ [zI 9 (.fld 1 (zR 2)), zL 10 9, zM 11 0, zI 12 (.idx 1 (zR 10) (zR 11)), zL 13 12, zM 7 13] (zQ [zM 14 7, zI 15 (zC 158 [(zR 14), (.func 230)]), zM 8 15] (.seq (.regionD [zM 16 1, zI 17 (zC
 154 [(zR 16)]), zI 18 (zC 152 [(zR 17), (zK 2)]), zM 19 7, zI 20 (.len (zR 19)), zL 21 3, zI 22 (.bin .eql (zR 20) (zR 21)), zI 23 (zC 152 [(zR 22), (zK 10)]), zM 24 8, zI 25 (.un .not (zR 24)), zM 26 25, zT 27 26 (.mv
 (zR 7)), zT 28 26 (.len (zR 27)), zT 29 26 (.mv (zR 0)), zT 30 26 (.bin .leq (zR 28) (zR 29)), zT 31 26 (.mv (zR 30)), zF 32 31 (.mv (zR 7)), zF 33 31 (.mv (zR 0)), zF 34 31 (.idx 1 (zR 32) (zR 33)), zF 35 31 (.load
 false 1 (zR 34)), zF 36 31 (.bin .eql (zR 35) (zK 0)), zT 37 26 (.pick (zR 31) (zB true) (zR 36)), zI 38 (.pick (zR 26) (zR 37) (zB false)), zI 39 (zC 152 [(zR 38), (zK 2)]), zI 40 (.lit false 34 1 [(zR 18), (zR 23), (zR
 39)]), zI 41 (zC 151 [(zR 40)]), zM 6 41] [0, 1, 3, 0, 8, 0, 56, 127, 0, 256, 1023, 2047, 4095, 2047, 16383, 32767, 65535, 65535, 262143, 524287, 1048575, 2097151, 4194303, 8388607, 16777215, 33554431, 67108863] [0, 1,
 2, 3, 4, 5, 6, 7, 8, 9, 10, 11, 12, 13, 14, 15, 16, 17, 18, 19, 20, 21, 22, 23, 24, 25, 26]) .ret))))
theorem low229 : lowF Tryz.prog [] Tryz.f229 = some (42, lc229.strip, [.tmp 6]) := by kernel_rfl
theorem fn229 : FnOk Tryz.prog 229 42 lc229 [.tmp 6] := ⟨Tryz.call229, [], _, Tryz.func229, low229⟩
def lc230 : LCode :=
 (zQ [zI 2 (.mv (zB false))] (zQ [zM 3 0, zI 4 (zC 154 [(zR 3)]), zI 5 (.un .not (zR 4)), zM 2 5] .ret))
theorem low230 : lowF Tryz.prog [] Tryz.f230 = some (6, lc230.strip, [.tmp 2]) := by kernel_rfl
theorem fn230 : FnOk Tryz.prog 230 6 lc230 [.tmp 2] := ⟨Tryz.call230, [], _, Tryz.func230, low230⟩
def lc231 : LCode :=
 (zQ [zI 4 (.boxS (zR 1)), zI 5 (.mv (zK 0))] (zQ [zI 6 (.fld 1 (zR 4)), zL 7 6, zL 8 2, zI 9 (.bin .lss (zR 7) (zR 8)), zI 10 (zC 152 [(zR 9), (zK 6)]), zM 5 10] .ret))
theorem low231 : lowF Tryz.prog [4] Tryz.f231 = some (11, lc231.strip, [.tmp 5]) := by kernel_rfl
theorem fn231 : FnOk Tryz.prog 231 11 lc231 [.tmp 5] := ⟨Tryz.call231, [4], _, Tryz.func231, low231⟩
def lc232 : LCode :=
 (zQ [zI 4 (.mv (zK 0)), zI 5 (.mv (zK 0))] (.seq (zQ [zM 9 0, zI 10 (.len (zR 9)), zI 11 (.mv (zK 0))] (.block 0 (.loop (zQ [zI 12 (.bin .lss (zR 11) (zR 10))] (.seq (.cond (zR 12) .skip (.exit 0)) (.seq (.block 1 (zQ
 [zM 13 11, zI 14 (.idx 3 (zR 9) (zR 11)), zI 15 (.load true 3 (zR 14)), zI 7 (.alloc [(.int .i64 0), (.int .i64 0), (.int .i64 0)]), zM 6 13, zN (.store 3 (zR 7) (zR 15))] (zQ [zM 16 1, zM 17 6, zI 18 (.load true 3 (zR
 7)), zI 19 (.call (zR 16) [(zR 17), (zR 18)]), zM 8 19] (zQ [zM 20 8, zI 21 (.bin .neq (zR 20) (zK 0))] (.cond (zR 21) (zQ [zM 22 6, zM 23 8, zM 4 22, zM 5 23] .ret) .skip))))) (.region [zI 24 (.bin .add (zR 11) (zK 1)),
 zM 11 24]))))))) (zQ [zI 4 (.mv (zK 0)), zI 5 (.mv (zK 0))] .ret)))
theorem low232 : lowF Tryz.prog [] Tryz.f232 = some (25, lc232.strip, [.tmp 4, .tmp 5]) := by kernel_rfl
theorem fn232 : FnOk Tryz.prog 232 25 lc232 [.tmp 4, .tmp 5] := ⟨Tryz.call232, [], _, Tryz.func232, low232⟩
def lc233 : LCode :=
 (zQ [zI 4 (.boxS (zR 1)), zI 5 (.mv (zK 0))] (zQ [zI 8 (.fld 0 (zR 4)), zI 9 (.load true 2 (zR 8)), zI 6 (.alloc [(.int .i64 0), (.int .i64 0)]), zN (.store 2 (zR 6) (zR 9))] (.seq (.regionD [zI 10 (.fld 0 (zR 6)), zL 11
 10, zI 12 (zC 234 [(zR 11)]), zM 13 12, zT 14 13 (.fld 1 (zR 6)), zT 15 13 (.load false 1 (zR 14)), zT 16 13 (zC 234 [(zR 15)]), zI 17 (.pick (zR 13) (zR 16) (zB false)), zM 18 17, zT 19 18 (.fld 2 (zR 4)), zT 20 18
 (.load false 1 (zR 19)), zT 21 18 (zC 154 [(zR 20)]), zI 22 (.pick (zR 18) (zR 21) (zB false)), zI 23 (zC 152 [(zR 22), (zK 2)]), zI 24 (.fld 0 (zR 6)), zL 25 24, zI 26 (.fld 1 (zR 6)), zL 27 26, zI 28 (.bin .leq (zR 25)
 (zR 27)), zM 29 28, zT 30 29 (.fld 0 (zR 6)), zT 31 29 (.load false 1 (zR 30)), zT 32 29 (.load false 1 (zR 2)), zT 33 29 (.bin .gtr (zR 31) (zR 32)), zI 34 (.pick (zR 29) (zR 33) (zB false)), zI 35 (zC 152 [(zR 34), (zK
 9)]), zI 36 (.lit false 34 1 [(zR 23), (zR 35)]), zI 37 (zC 151 [(zR 36)]), zM 7 37] [0, 1, 3, 7, 15, 31, 63, 127, 255, 511, 1023, 2047, 4095, 8191, 0, 16384, 0, 65536, 245760, 524287, 1048575, 2097151, 1048575, 8388607,
 16777215, 33554431, 67108863, 134217727, 268435455] [0, 1, 2, 3, 4, 5, 6, 7, 8, 9, 10, 11, 12, 13, 14, 15, 16, 17, 18, 19, 20, 21, 22, 23, 24, 25, 26, 27, 28]) (zQ [zI 38 (.fld 1 (zR 6)), zL 39 38, zN (.store 1 (zR 2)
 (zR 39))] (zQ [zM 40 7, zM 5 40] .ret)))))
theorem low233 : lowF Tryz.prog [4] Tryz.f233 = some (41, lc233.strip, [.tmp 5]) := by kernel_rfl
theorem fn233 : FnOk Tryz.prog 233 41 lc233 [.tmp 5] := ⟨Tryz.call233, [4], _, Tryz.func233, low233⟩
def lc234 : LCode :=
 (zQ [zI 2 (.mv (zB false))] (zQ [zM 3 0, zI 4 (zC 168 [(zR 3), (zK 0), (zK 100000)]), zM 2 4] .ret))
theorem low234 : lowF Tryz.prog [] Tryz.f234 = some (5, lc234.strip, [.tmp 2]) := by kernel_rfl
theorem fn234 : FnOk Tryz.prog 234 5 lc234 [.tmp 2] := ⟨Tryz.call234, [], _, Tryz.func234, low234⟩
def lc254 : LCode :=
 (zQ [zI 3 (.mv (zB false))] (zQ [zI 4 (.load true 13 (zR 1)), zM 5 0, zI 6 (zC 144 [(zR 4), (zR 5)]), zI 7 (.un .not (zR 6)), zM 3 7] .ret))
theorem low254 : lowF Tryz.prog [] Tryz.f254 = some (8, lc254.strip, [.tmp 3]) := by kernel_rfl
theorem fn254 : FnOk Tryz.prog 254 8 lc254 [.tmp 3] := ⟨Tryz.call254, [], _, Tryz.func254, low254⟩
def lc255 : LCode :=
 (.seq (zQ [zL 9 1, zI 10 (.lenS (zR 9)), zI 11 (.bin .eql (zR 10) (zK 0))] (.cond (zR 11) (.seq (.block 0 (.loop (.seq (zQ [zL 12 2, zI 13 (.lenS (zR 12)), zI 14 (.bin .gtr (zR 13) (zK 0))] (.cond (zR 14) .skip (.exit
 0))) (.block 1 (zQ [zL 16 2, zI 17 (zC 256 [(zR 16)]), zM 15 17, zI 18 (.ext (zR 15) 0), zI 19 (.ext (zR 15) 1), zM 5 18, zM 6 19] (.seq (zQ [zM 20 0, zL 21 2, zM 22 6, zI 23 (.slcS (zR 21) none (some (zR 22))), zI 24
 (.call (zR 20) [(zR 23)]), zI 25 (.un .not (zR 24))] (.cond (zR 25) .ret .skip)) (.region [zL 26 2, zM 27 6, zI 28 (.slcS (zR 26) (some (zR 27)) none), zN (.store 1 (zR 2) (zR 28))]))))))) .ret) .skip)) (.seq (.block 2
 (.loop (.block 3 (zQ [zL 29 2, zL 30 1, zI 31 (zC 249 [(zR 29), (zR 30)]), zM 7 31] (.seq (zQ [zM 32 7, zI 33 (.bin .lss (zR 32) (zK 0))] (.cond (zR 33) (.exit 2) .skip)) (zQ [zL 34 2, zM 35 7, zL 36 3, zI 37 (.bin .add
 (zR 35) (zR 36)), zI 38 (.slcS (zR 34) none (some (zR 37))), zM 8 38] (.seq (zQ [zM 39 0, zM 40 8, zI 41 (.call (zR 39) [(zR 40)]), zI 42 (.un .not (zR 41))] (.cond (zR 42) .ret .skip)) (.region [zL 43 2, zM 44 7, zL 45
 1, zI 46 (.lenS (zR 45)), zI 47 (.bin .add (zR 44) (zR 46)), zI 48 (.slcS (zR 43) (some (zR 47)) none), zN (.store 1 (zR 2) (zR 48))])))))))) (.region [zM 49 0, zL 50 2, zI 51 (.call (zR 49) [(zR 50)])])))
theorem low255 : lowF Tryz.prog [] Tryz.f255 = some (52, lc255.strip, []) := by kernel_rfl
theorem fn255 : FnOk Tryz.prog 255 52 lc255 [] := ⟨Tryz.call255, [], _, Tryz.func255, low255⟩
def lc258 : LCode :=
 (zQ [zI 4 (.mv (zK 0))] (.seq (zQ [zM 6 0, zI 7 (.len (zR 6)), zI 8 (.mv (zK 0))] (.block 0 (.loop (zQ [zI 9 (.bin .lss (zR 8) (zR 7))] (.seq (.cond (zR 9) .skip (.exit 0)) (.seq (.block 1 (zQ [zM 10 8, zM 5 10] (zQ [zM
 11 1, zM 12 0, zM 13 5, zI 14 (.idx 9 (zR 12) (zR 13)), zI 15 (.load true 9 (zR 14)), zI 16 (.call (zR 11) [(zR 15)])] (.cond (zR 16) (zQ [zM 17 5, zM 4 17] .ret) .skip)))) (.region [zI 18 (.bin .add (zR 8) (zK 1)), zM 8
 18]))))))) (zQ [zI 4 (.mv (zK (-1)))] .ret)))
theorem low258 : lowF Tryz.prog [] Tryz.f258 = some (19, lc258.strip, [.tmp 4]) := by kernel_rfl
theorem fn258 : FnOk Tryz.prog 258 19 lc258 [.tmp 4] := ⟨Tryz.call258, [], _, Tryz.func258, low258⟩
def lc259 : LCode :=
 (zQ [zI 3 (.box (zR 1)), zI 4 (.mv (zK 0)), zI 5 (.mv (zK 0))] (zQ [zI 6 (.alloc [(.int .i64 0)]), zN (.store 1 (zR 6) (zK (-1)))] (zQ [zM 7 0, zI 8 (.mkfn 290 [(zR 3), (zR 6)]), zI 9 (zC 220 [(zR 7), (zR 8)]), zI 10
 (.ext (zR 9) 0), zI 11 (.ext (zR 9) 1), zM 4 10, zM 5 11] .ret)))
theorem low259 : lowF Tryz.prog [] Tryz.f259 = some (12, lc259.strip, [.tmp 4, .tmp 5]) := by kernel_rfl
theorem fn259 : FnOk Tryz.prog 259 12 lc259 [.tmp 4, .tmp 5] := ⟨Tryz.call259, [], _, Tryz.func259, low259⟩
def lc262 : LCode :=
 (zQ [zI 3 (.box (zR 0))] (zQ [zI 4 (.alloc [.nilFunc])] (zQ [zI 5 (.mkfn 263 [(zR 3), (zR 1), (zR 4)]), zN (.store 1 (zR 4) (zR 5))] (.region [zL 6 4, zI 7 (.load true 13 (zR 2)), zI 8 (.call (zR 6) [(zR 7), (.const
 (.slice none 0 0))])]))))
theorem low262 : lowF Tryz.prog [] Tryz.f262 = some (9, lc262.strip, []) := by kernel_rfl
theorem fn262 : FnOk Tryz.prog 262 9 lc262 [] := ⟨Tryz.call262, [], _, Tryz.func262, low262⟩
def lc264 : LCode :=
 (zQ [zI 2 (.mv (.const (.slice none 0 0)))] (zQ [zM 3 0, zM 4 0, zI 5 (.len (zR 4)), zM 6 0, zI 7 (.len (zR 6)), zI 8 (.clip 1 (zR 3) (zR 5) (zR 7)), zM 2 8] .ret))
theorem low264 : lowF Tryz.prog [] Tryz.f264 = some (9, lc264.strip, [.tmp 2]) := by kernel_rfl
theorem fn264 : FnOk Tryz.prog 264 9 lc264 [.tmp 2] := ⟨Tryz.call264, [], _, Tryz.func264, low264⟩
def lc266 : LCode :=
 (zQ [zI 4 (.mv (zK 0)), zI 5 (.mv (zB false))] (zQ [zM 10 0, zI 11 (.len (zR 10)), zM 6 11] (zQ [zM 12 6, zI 7 (.mv (zK 0)), zM 8 12] (.seq (.block 0 (.loop (.seq (zQ [zM 13 7, zM 14 8, zI 15 (.bin .lss (zR 13) (zR 14))]
 (.cond (zR 15) .skip (.exit 0))) (.block 1 (zQ [zM 16 7, zM 17 8, zI 18 (.bin .add (zR 16) (zR 17)), zI 19 (.conv .u64 (zR 18)), zI 20 (.bin .shr (zR 19) (.const (.int .u64 1))), zI 21 (.conv .i64 (zR 20)), zM 9 21] (zQ
 [zM 22 0, zM 23 9, zI 24 (.idx 1 (zR 22) (zR 23)), zL 25 24, zM 26 1, zI 27 (zC 291 [(zR 25), (zR 26)])] (.cond (zR 27) (.region [zM 28 9, zI 29 (.bin .add (zR 28) (zK 1)), zM 7 29]) (.region [zM 30 9, zM 8 30]))))))))
 (zQ [zM 31 7, zM 32 7, zM 33 6, zI 34 (.bin .lss (zR 32) (zR 33)), zM 35 34, zT 36 35 (.mv (zR 0)), zT 37 35 (.mv (zR 7)), zT 38 35 (.idx 1 (zR 36) (zR 37)), zT 39 35 (.load false 1 (zR 38)), zT 40 35 (.mv (zR 1)), zT 41
 35 (.bin .eql (zR 39) (zR 40)), zT 42 35 (.mv (zR 41)), zF 43 42 (.mv (zR 0)), zF 44 42 (.mv (zR 7)), zF 45 42 (.idx 1 (zR 43) (zR 44)), zF 46 42 (.load false 1 (zR 45)), zF 47 42 (zC 292 [(zR 46)]), zF 48 42 (.mv (zR
 47)), zT 49 48 (.mv (zR 1)), zT 50 48 (zC 292 [(zR 49)]), zF 51 42 (.pick (zR 48) (zR 50) (zB false)), zT 52 35 (.pick (zR 42) (zB true) (zR 51)), zI 53 (.pick (zR 35) (zR 52) (zB false)), zM 4 31, zM 5 53] .ret)))))
theorem low266 : lowF Tryz.prog [] Tryz.f266 = some (54, lc266.strip, [.tmp 4, .tmp 5]) := by kernel_rfl
theorem fn266 : FnOk Tryz.prog 266 54 lc266 [.tmp 4, .tmp 5] := ⟨Tryz.call266, [], _, Tryz.func266, low266⟩
def lc267 : LCode :=
 (zQ [zI 6 (.mv (.const (.slice none 0 0)))] (zQ [zM 10 0, zM 11 1, zI 12 (.slc 1 (zR 10) (some (zR 11)) none)] (zQ [zM 13 2, zI 14 (.len (zR 13)), zM 7 14] (.seq (zQ [zM 15 7, zI 16 (.bin .eql (zR 15) (zK 0))] (.cond (zR
 16) (zQ [zM 17 0, zM 6 17] .ret) .skip)) (zQ [zM 18 0, zI 19 (.len (zR 18)), zM 8 19] (.seq (zQ [zM 20 1, zM 21 8, zI 22 (.bin .eql (zR 20) (zR 21))] (.cond (zR 22) (zQ [zM 23 0, zM 24 2, zI 25 (.append true 3 1 8 (zR
 23) (zR 24)), zM 6 25] .ret) .skip)) (.seq (zQ [zM 26 8, zM 27 7, zI 28 (.bin .add (zR 26) (zR 27)), zM 29 0, zI 30 (.cap (zR 29)), zI 31 (.bin .gtr (zR 28) (zR 30))] (.cond (zR 31) (zQ [zM 32 0, zM 33 1, zI 34 (.slc 1
 (zR 32) none (some (zR 33))), zM 35 8, zM 36 7, zI 37 (.bin .add (zR 35) (zR 36)), zM 38 1, zI 39 (.bin .sub (zR 37) (zR 38)), zI 40 (.appendN 3 1 8 [(.int .i64 0)] (zR 34) (zR 39)), zM 9 40] (zQ [zM 41 9, zM 42 1, zI 43
 (.slc 1 (zR 41) (some (zR 42)) none), zM 44 2, zI 45 (.bad)] (.seq (.regionD [zM 46 9, zM 47 1, zM 48 7, zI 49 (.bin .add (zR 47) (zR 48)), zI 50 (.slc 1 (zR 46) (some (zR 49)) none), zM 51 0, zM 52 1, zI 53 (.slc 1 (zR
 51) (some (zR 52)) none), zI 54 (.bad)] [0, 0, 0, 6, 15, 0, 0, 96, 255] [0, 1, 2, 3, 4, 5, 6, 7, 8]) (zQ [zM 55 9, zM 6 55] .ret)))) .skip)) (zQ [zM 56 0, zM 57 8, zM 58 7, zI 59 (.bin .add (zR 57) (zR 58)), zI 60 (.slc
 1 (zR 56) none (some (zR 59))), zM 0 60] (.seq (zQ [zM 61 2, zM 62 0, zM 63 1, zM 64 7, zI 65 (.bin .add (zR 63) (zR 64)), zI 66 (.slc 1 (zR 62) (some (zR 65)) none), zI 67 (zC 293 [(zR 61), (zR 66)]), zI 68 (.un .not
 (zR 67))] (.cond (zR 68) (.seq (.regionD [zM 69 0, zM 70 1, zM 71 7, zI 72 (.bin .add (zR 70) (zR 71)), zI 73 (.slc 1 (zR 69) (some (zR 72)) none), zM 74 0, zM 75 1, zI 76 (.slc 1 (zR 74) (some (zR 75)) none), zI 77
 (.bad)] [0, 0, 0, 6, 15, 0, 0, 96, 255] [0, 1, 2, 3, 4, 5, 6, 7, 8]) (zQ [zM 78 0, zM 79 1, zI 80 (.slc 1 (zR 78) (some (zR 79)) none), zM 81 2, zI 82 (.bad)] (zQ [zM 83 0, zM 6 83] .ret))) .skip)) (zQ [zM 84 0, zM 85 8,
 zI 86 (.slc 1 (zR 84) (some (zR 85)) none), zM 87 2, zI 88 (.bad)] (zQ [zM 89 0, zM 90 1, zI 91 (.slc 1 (zR 89) (some (zR 90)) none), zM 92 7, zI 93 (zC 294 [(zR 91), (zR 92)])] (zQ [zM 94 0, zM 6 94] .ret))))))))))))
theorem low267 : lowF Tryz.prog [25] Tryz.f267 = some (95, lc267.strip, [.tmp 6]) := by kernel_rfl
theorem fn267 : FnOk Tryz.prog 267 95 lc267 [.tmp 6] := ⟨Tryz.call267, [25], _, Tryz.func267, low267⟩
def lc268 : LCode :=
 (zQ [zL 4 1, zI 5 (.len (zR 4)), zI 6 (.bin .sub (zR 5) (zK 1)), zM 3 6] (.block 0 (.loop (.seq (zQ [zM 7 3, zI 8 (.bin .geq (zR 7) (zK 0))] (.cond (zR 8) .skip (.exit 0))) (.seq (.block 1 (zQ [zM 11 0, zM 12 3, zL 13 1,
 zM 14 3, zI 15 (.idx 3 (zR 13) (zR 14)), zI 16 (.load true 3 (zR 15)), zI 17 (.call (zR 11) [(zR 12), (zR 16)]), zI 18 (.un .not (zR 17))] (.cond (zR 18) .ret .skip))) (.region [zM 9 3, zI 10 (.bin .sub (zR 9) (zK 1)),
 zM 3 10]))))))
theorem low268 : lowF Tryz.prog [] Tryz.f268 = some (19, lc268.strip, []) := by kernel_rfl
theorem fn268 : FnOk Tryz.prog 268 19 lc268 [] := ⟨Tryz.call268, [], _, Tryz.func268, low268⟩
def lc290 : LCode :=
 (zQ [zI 6 (.mv (zK 0))] (.seq (.regionD [zM 8 1, zL 9 2, zI 10 (.bin .sub (zR 9) (zK 1)), zI 11 (zC 168 [(zR 8), (zK 0), (zR 10)]), zI 12 (zC 152 [(zR 11), (zK 6)]), zM 13 1, zL 14 3, zI 15 (.bin .gtr (zR 13) (zR 14)),
 zI 16 (zC 152 [(zR 15), (zK 9)]), zI 17 (.lit false 34 1 [(zR 12), (zR 16)]), zI 18 (zC 151 [(zR 17)]), zM 7 18] [0, 0, 2, 7, 15, 0, 0, 96, 255, 511, 1023, 2047] [0, 1, 2, 3, 4, 5, 6, 7, 8, 9, 10, 11]) (zQ [zM 19 1, zN
 (.store 1 (zR 3) (zR 19))] (zQ [zM 20 7, zM 6 20] .ret))))
theorem low290 : lowF Tryz.prog [] Tryz.f290 = some (21, lc290.strip, [.tmp 6]) := by kernel_rfl
theorem fn290 : FnOk Tryz.prog 290 21 lc290 [.tmp 6] := ⟨Tryz.call290, [], _, Tryz.func290, low290⟩
def lc291 : LCode :=
 (zQ [zI 4 (.mv (zB false))] (zQ [zM 5 0, zI 6 (zC 226 [(zR 5)]), zM 7 6, zT 8 7 (.mv (zR 1)), zT 9 7 (zC 226 [(zR 8)]), zT 10 7 (.un .not (zR 9)), zI 11 (.pick (zR 7) (zR 10) (zB false)), zM 12 11, zF 13 12 (.mv (zR 0)),
 zF 14 12 (.mv (zR 1)), zF 15 12 (.bin .lss (zR 13) (zR 14)), zI 16 (.pick (zR 12) (zB true) (zR 15)), zM 4 16] .ret))
theorem low291 : lowF Tryz.prog [] Tryz.f291 = some (17, lc291.strip, [.tmp 4]) := by kernel_rfl
theorem fn291 : FnOk Tryz.prog 291 17 lc291 [.tmp 4] := ⟨Tryz.call291, [], _, Tryz.func291, low291⟩
def lc292 : LCode :=
 (zQ [zI 2 (.mv (zB false))] (zQ [zM 3 0, zM 4 0, zI 5 (.bin .neq (zR 3) (zR 4)), zM 2 5] .ret))
theorem low292 : lowF Tryz.prog [] Tryz.f292 = some (6, lc292.strip, [.tmp 2]) := by kernel_rfl
theorem fn292 : FnOk Tryz.prog 292 6 lc292 [.tmp 2] := ⟨Tryz.call292, [], _, Tryz.func292, low292⟩
def lc250 : LCode :=
 (zQ [zI 4 (.mv (zK 0))] (.seq (zQ [zM 6 0, zI 7 (.len (zR 6)), zI 8 (.mv (zK 0))] (.block 0 (.loop (zQ [zI 9 (.bin .lss (zR 8) (zR 7))] (.seq (.cond (zR 9) .skip (.exit 0)) (.seq (.block 1 (zQ [zM 10 8, zM 5 10] (zQ [zM
 11 1, zM 12 0, zM 13 5, zI 14 (.idx 1 (zR 12) (zR 13)), zL 15 14, zI 16 (.bin .eql (zR 11) (zR 15))] (.cond (zR 16) (zQ [zM 17 5, zM 4 17] .ret) .skip)))) (.region [zI 18 (.bin .add (zR 8) (zK 1)), zM 8 18]))))))) (zQ
 [zI 4 (.mv (zK (-1)))] .ret)))
theorem low250 : lowF Tryz.prog [] Tryz.f250 = some (19, lc250.strip, [.tmp 4]) := by kernel_rfl
theorem fn250 : FnOk Tryz.prog 250 19 lc250 [.tmp 4] := ⟨Tryz.call250, [], _, Tryz.func250, low250⟩
end Go.Pw
set_option linter.unusedVariables false
set_option maxHeartbeats 2000000
set_option maxRecDepth 100000
namespace Go.Pw
open Go Go.Proofs
end Go.Pw

set_option linter.unusedSimpArgs false
set_option linter.unusedVariables false
namespace Go.Pw
set_option maxRecDepth 2000
open Go Go.Proofs A1 A2 A3 A4
instance : Mix Tryz.prog := ⟨⟨by kernel_rfl⟩⟩
theorem C168 {n lo hi : Int} : PFD Tryz.prog 168 [vi .i64 n, vi .i64 lo, vi .i64 hi] (vbl (wi n lo hi)) := by
  refine pi1 fn168 ?_
  (repeat' first | (refine Owe.same ?_; first | refine Owe.o ?_ | refine Owe.mk ?_ ?_) | (refine Fork.same ?_; (first | refine fkD ?_ ?_ | refine fkN ?_ ?_ | refine fkM ?_ ?_) <;> intro h) | refine MvQ.stay ?_)
  · (refine rqK rfl ?_; (repeat' first | exact rfl | (refine qS ?_; constructor))); simp [*]
  · (refine rqK rfl ?_; (repeat' first | exact rfl | (refine qS ?_; constructor))); simp only [decide_eq_false_iff_not]; omega
theorem C46 {n lo hi : Int} : PFD Tryz.prog 46 [vi .i64 n, vi .i64 lo, vi .i64 hi] (vbl (wi n lo hi)) := by
  refine pi1 fn46 ?_
  (repeat' first | (refine Owe.same ?_; first | refine Owe.o ?_ | refine Owe.mk ?_ ?_) | (refine Fork.same ?_; (first | refine fkD ?_ ?_ | refine fkN ?_ ?_ | refine fkM ?_ ?_) <;> intro h) | refine MvQ.stay ?_)
  · (refine rqK rfl ?_; (repeat' first | exact rfl | (refine qS ?_; constructor))); simp [*]
  · (refine rqK rfl ?_; (repeat' first | exact rfl | (refine qS ?_; constructor))); simp only [decide_eq_false_iff_not]; omega
theorem C152 {b : Bool} {e : Int} : PFD Tryz.prog 152 [vbl b, vi .i64 e] (vi .i64 (unb b e)) := by
  refine pi1 fn152 ?_
  (repeat' first | (refine Owe.same ?_; first | refine Owe.o ?_ | refine Owe.mk ?_ ?_) | (refine Fork.same ?_; (first | refine fkD ?_ ?_ | refine fkN ?_ ?_ | refine fkM ?_ ?_) <;> intro h) | refine MvQ.stay ?_)
  · (refine rqK rfl ?_; (repeat' first | exact rfl | (refine qS ?_; constructor))); simp [unb, *]
  · (refine rqK rfl ?_; (repeat' first | exact rfl | (refine qS ?_; constructor))); simp [unb, *]
theorem C151 {l : List Int} : l.length < 4611686018427387904 → PFD Tryz.prog 151 [.c (ints l)] (vi .i64 (fstE l)) := fun hl => by
  refine pi1 fn151 ?_
  (repeat' first | (refine Owe.same ?_; first | refine Owe.o ?_ | refine Owe.mk ?_ ?_) | (refine Fork.same ?_; (first | refine fkD ?_ ?_ | refine fkN ?_ ?_ | refine fkM ?_ ?_) <;> intro h) | refine MvQ.stay ?_)
  refine Sat.lp0 (fun k : Nat => [(7, vi .i64 k), (6, vi .i64 l.length), (5, .c (ints l))]) (fun k => k ≤ l.length ∧ fstE l = fstE (l.drop k)) (fun k => l.length - k) 0 ⟨Nat.zero_le _, rfl⟩ (by ((first | refine qen ?_ | refine qvs ?_ | refine qeq ?_ | refine qst ?_ | refine qv ?_ | refine qc ?_ | refine qe ?_ | refine qcs ?_ | skip); (repeat' first | exact rfl | (refine qS ?_; constructor)))) ?_
  intro k hk
  (repeat' first | (refine Owe.same ?_; first | refine Owe.o ?_ | refine Owe.mk ?_ ?_) | (refine Fork.same ?_; (first | refine fkD ?_ ?_ | refine fkN ?_ ?_ | refine fkM ?_ ?_) <;> intro h) | refine MvQ.stay ?_)
  · simp only [Int.toNat_natCast] at h
    (refine rqK rfl ?_; (repeat' first | exact rfl | (refine qS ?_; constructor)))
    rw [hk.2, fstE_drop l k (by omega), if_neg h, Int.toNat_natCast]
  · simp only [Int.toNat_natCast] at h
    refine again0 (k + 1) ⟨by omega, ?_⟩ (by omega) (by ((first | refine qen ?_ | refine qvs ?_ | refine qeq ?_ | refine qst ?_ | refine qv ?_ | refine qc ?_ | refine qe ?_ | refine qcs ?_ | skip); (repeat' first | exact rfl | (refine qS ?_; constructor))))
    rw [hk.2, fstE_drop l k (by omega), if_pos h]
  · (refine rqK rfl ?_; (repeat' first | exact rfl | (refine qS ?_; constructor)))
    rw [hk.2, List.drop_of_length_le (by omega)]; rfl
abbrev isN (n : Int) : Prop := 0 ≤ n ∧ n ≤ 10000
abbrev isT (n : Int) : Prop := 0 ≤ n ∧ n ≤ 100000
theorem C154 {n : Int} : PFD Tryz.prog 154 [vi .i64 n] (vbl (decide (isN n))) := by
  refine pi1 fn154 ?_
  (repeat' first | (refine Owe.same ?_; first | refine Owe.o ?_ | refine Owe.mk ?_ ?_) | (refine Fork.same ?_; (first | refine fkD ?_ ?_ | refine fkN ?_ ?_ | refine fkM ?_ ?_) <;> intro h) | ((first | refine OpsL.same ?_ | refine OpsDL.same ?_); first | refine pK C168 rfl rfl ?_) | refine MvQ.stay ?_)
  (refine rqK rfl ?_; (repeat' first | exact rfl | (refine qS ?_; constructor)))
theorem C234 {n : Int} : PFD Tryz.prog 234 [vi .i64 n] (vbl (decide (isT n))) := by
  refine pi1 fn234 ?_
  (repeat' first | (refine Owe.same ?_; first | refine Owe.o ?_ | refine Owe.mk ?_ ?_) | (refine Fork.same ?_; (first | refine fkD ?_ ?_ | refine fkN ?_ ?_ | refine fkM ?_ ?_) <;> intro h) | ((first | refine OpsL.same ?_ | refine OpsDL.same ?_); first | refine pK C168 rfl rfl ?_) | refine MvQ.stay ?_)
  (refine rqK rfl ?_; (repeat' first | exact rfl | (refine qS ?_; constructor)))
theorem C118 {n : Int} : PFD Tryz.prog 118 [vi .i64 n] (vbl (decide (isN n))) := by
  refine pi1 fn118 ?_
  (repeat' first | (refine Owe.same ?_; first | refine Owe.o ?_ | refine Owe.mk ?_ ?_) | (refine Fork.same ?_; (first | refine fkD ?_ ?_ | refine fkN ?_ ?_ | refine fkM ?_ ?_) <;> intro h) | ((first | refine OpsL.same ?_ | refine OpsDL.same ?_); first | refine pK C46 rfl rfl ?_) | refine MvQ.stay ?_)
  (refine rqK rfl ?_; (repeat' first | exact rfl | (refine qS ?_; constructor)))
theorem C119 {n : Int} : PFD Tryz.prog 119 [vi .i64 n] (vbl (decide (isT n))) := by
  refine pi1 fn119 ?_
  (repeat' first | (refine Owe.same ?_; first | refine Owe.o ?_ | refine Owe.mk ?_ ?_) | (refine Fork.same ?_; (first | refine fkD ?_ ?_ | refine fkN ?_ ?_ | refine fkM ?_ ?_) <;> intro h) | ((first | refine OpsL.same ?_ | refine OpsDL.same ?_); first | refine pK C46 rfl rfl ?_) | refine MvQ.stay ?_)
  (refine rqK rfl ?_; (repeat' first | exact rfl | (refine qS ?_; constructor)))
def tksE (lo hi : Int) : Int := fstE [unl (isT lo ∧ isT hi) 2, unl (lo ≤ hi) 9]
theorem unl_of {p : Prop} [Decidable p] {b : Bool} {e : Int} (h : b = decide p) : unb b e = unl p e := by subst h; rfl
theorem C205 {lo hi : Int} : PFD Tryz.prog 205 [.agg [int lo, int hi]] (vi .i64 (tksE lo hi)) := by
  refine pi1 fn205 ?_
  (repeat' first | (refine Owe.same ?_; first | refine Owe.o ?_ | refine Owe.mk ?_ ?_) | (refine Fork.same ?_; (first | refine fkD ?_ ?_ | refine fkN ?_ ?_ | refine fkM ?_ ?_) <;> intro h) | ((first | refine OpsL.same ?_ | refine OpsDL.same ?_); first | refine pK C234 rfl rfl ?_ | refine pK C152 rfl rfl ?_ | refine pK C151 rfl rfl ?_) | refine MvQ.stay ?_)
  · (refine rqK rfl ?_; (repeat' first | exact rfl | (refine qS ?_; constructor)))
    rw [tksE, ← unl_of (decide_eq_decide.2 ⟨fun hh => ⟨h, hh⟩, fun hh => hh.2⟩)]
  · (refine rqK rfl ?_; (repeat' first | exact rfl | (refine qS ?_; constructor)))
    rw [tksE, ← unl_of (decide_eq_false fun hh => h hh.1).symm]
theorem C226 {n : Int} : PFD Tryz.prog 226 [vi .i64 n] (vbl false) := by
  refine pi1 fn226 ?_
  (repeat' first | (refine Owe.same ?_; first | refine Owe.o ?_ | refine Owe.mk ?_ ?_) | (refine Fork.same ?_; (first | refine fkD ?_ ?_ | refine fkN ?_ ?_ | refine fkM ?_ ?_) <;> intro h) | refine MvQ.stay ?_)
  (refine rqK rfl ?_; (repeat' first | exact rfl | (refine qS ?_; constructor)))
  simp
theorem C292 {n : Int} : PFD Tryz.prog 292 [vi .i64 n] (vbl false) := by
  refine pi1 fn292 ?_
  (repeat' first | (refine Owe.same ?_; first | refine Owe.o ?_ | refine Owe.mk ?_ ?_) | (refine Fork.same ?_; (first | refine fkD ?_ ?_ | refine fkN ?_ ?_ | refine fkM ?_ ?_) <;> intro h) | refine MvQ.stay ?_)
  (refine rqK rfl ?_; (repeat' first | exact rfl | (refine qS ?_; constructor)))
  simp
theorem C291 {a b : Int} : PFD Tryz.prog 291 [vi .i64 a, vi .i64 b] (vbl (decide (a < b))) := by
  refine pi1 fn291 ?_
  (repeat' first | (refine Owe.same ?_; first | refine Owe.o ?_ | refine Owe.mk ?_ ?_) | (refine Fork.same ?_; (first | refine fkY ?_ | refine fkF ?_ | ((first | refine fkD ?_ ?_ | refine fkN ?_ ?_ | refine fkM ?_ ?_) <;> intro h))) | ((first | refine OpsL.same ?_ | refine OpsDL.same ?_); first | refine oK C226 rfl rfl rfl ?_) | refine MvQ.stay ?_)
  (refine rqK rfl ?_; (repeat' first | exact rfl | (refine qS ?_; constructor)))
def idxE (n : Int) : Int → List Int → Int
  | _, [] => -1
  | k, x :: l => if n = x then k else idxE n (k + 1) l
theorem idxE_drop (n : Int) (l : List Int) (k : Nat) (h : k < l.length) : idxE n k (l.drop k) = if n = l.getD k 0 then (k : Int) else idxE n ((k + 1 : Nat) : Int) (l.drop (k + 1)) := by
  have e : l.drop k = l.getD k 0 :: l.drop (k + 1) := by
    rw [List.getD_eq_getElem?_getD, List.getElem?_eq_getElem h]; exact List.drop_eq_getElem_cons h
  rw [e, idxE]; rfl
theorem idxE_ge (n : Int) : ∀ (l : List Int) (k : Int), 0 ≤ k → (0 ≤ idxE n k l ↔ n ∈ l)
  | [], k, _ => by simp [idxE]
  | x :: l, k, hk => by
    rw [idxE]
    split
    · rename_i h; subst h; simp [hk]
    · rename_i h; rw [idxE_ge n l (k + 1) (by omega), List.mem_cons]; simp [h]
theorem C250 {l : List Int} {n : Int} : l.length ≤ 1000000 → PFD Tryz.prog 250 [.c (ints l), vi .i64 n] (vi .i64 (idxE n 0 l)) := fun hl => by
  refine pi1 fn250 ?_
  (repeat' first | (refine Owe.same ?_; first | refine Owe.o ?_ | refine Owe.mk ?_ ?_) | (refine Fork.same ?_; (first | refine fkD ?_ ?_ | refine fkN ?_ ?_ | refine fkM ?_ ?_) <;> intro h) | refine MvQ.stay ?_)
  refine Sat.lp0 (fun k : Nat => [(8, vi .i64 k), (7, vi .i64 l.length), (0, .c (ints l)), (1, vi .i64 n)]) (fun k => k ≤ l.length ∧ idxE n 0 l = idxE n k (l.drop k)) (fun k => l.length - k) 0 ⟨Nat.zero_le _, rfl⟩ (by ((first | refine qen ?_ | refine qvs ?_ | refine qeq ?_ | refine qst ?_ | refine qv ?_ | refine qc ?_ | refine qe ?_ | refine qcs ?_ | skip); (repeat' first | exact rfl | (refine qS ?_; constructor)))) ?_
  intro k hk
  (repeat' first | (refine Owe.same ?_; first | refine Owe.o ?_ | refine Owe.mk ?_ ?_) | (refine Fork.same ?_; (first | refine fkD ?_ ?_ | refine fkN ?_ ?_ | refine fkM ?_ ?_) <;> intro h) | refine MvQ.stay ?_)
  · have e := idxE_drop n l k (by omega)
    have h : n = l.getD k 0 := h
    rw [if_pos h, ← hk.2] at e
    (refine rqK rfl ?_; (repeat' first | exact rfl | (refine qS ?_; constructor))); rw [e]
  · have e := idxE_drop n l k (by omega)
    have h : ¬ n = l.getD k 0 := h
    rw [if_neg h, ← hk.2] at e
    exact again0 (k + 1) ⟨by omega, e⟩ (by omega) (by ((first | refine qen ?_ | refine qvs ?_ | refine qeq ?_ | refine qst ?_ | refine qv ?_ | refine qc ?_ | refine qe ?_ | refine qcs ?_ | skip); (repeat' first | exact rfl | (refine qS ?_; constructor))))
  · have e : idxE n 0 l = -1 := by rw [hk.2, List.drop_of_length_le (by omega)]; rfl
    (refine rqK rfl ?_; (repeat' first | exact rfl | (refine qS ?_; constructor))); rw [e]
theorem C186 {l : List Int} {n : Int} : l.length ≤ 1000000 → PFD Tryz.prog 186 [.c (ints l), vi .i64 n] (vbl (decide (n ∈ l))) := fun hl => by
  refine pi1 fn186 ?_
  (repeat' first | (refine Owe.same ?_; first | refine Owe.o ?_ | refine Owe.mk ?_ ?_) | (refine Fork.same ?_; (first | refine fkD ?_ ?_ | refine fkN ?_ ?_ | refine fkM ?_ ?_) <;> intro h) | ((first | refine OpsL.same ?_ | refine OpsDL.same ?_); first | refine pK (C250 hl) rfl rfl ?_) | refine MvQ.stay ?_)
  (refine rqK rfl ?_; (repeat' first | exact rfl | (refine qS ?_; constructor)))
  exact decide_eq_decide.2 (idxE_ge n l 0 (Int.le_refl _))
theorem C80 {l : List Int} {n : Int} : l.length < 4611686018427387904 → PFD Tryz.prog 80 [.c (ints l), vi .i64 n] (vbl (decide (n ∈ l))) := fun hl => by
  refine pi1 fn80 ?_
  (repeat' first | (refine Owe.same ?_; first | refine Owe.o ?_ | refine Owe.mk ?_ ?_) | (refine Fork.same ?_; (first | refine fkD ?_ ?_ | refine fkN ?_ ?_ | refine fkM ?_ ?_) <;> intro h) | refine MvQ.stay ?_)
  refine Sat.lp0 (fun k : Nat => [(5, vi .i64 k), (0, .c (ints l)), (1, vi .i64 n)]) (fun k => k ≤ l.length ∧ ∀ i, i < k → l.getD i 0 ≠ n) (fun k => l.length - k) 0 ⟨Nat.zero_le _, fun i hi => by omega⟩ (by ((first | refine qen ?_ | refine qvs ?_ | refine qeq ?_ | refine qst ?_ | refine qv ?_ | refine qc ?_ | refine qe ?_ | refine qcs ?_ | skip); (repeat' first | exact rfl | (refine qS ?_; constructor)))) ?_
  intro k hk
  (repeat' first | (refine Owe.same ?_; first | refine Owe.o ?_ | refine Owe.mk ?_ ?_) | (refine Fork.same ?_; (first | refine fkD ?_ ?_ | refine fkN ?_ ?_ | refine fkM ?_ ?_) <;> intro h) | refine MvQ.stay ?_)
  · simp only [Int.toNat_natCast] at h
    (refine rqK rfl ?_; (repeat' first | exact rfl | (refine qS ?_; constructor))); simp only [decide_eq_true_eq]; rw [← h, List.getD_eq_getElem?_getD, List.getElem?_eq_getElem (show k < l.length by omega)]; exact List.getElem_mem _
  · simp only [Int.toNat_natCast] at h
    refine again0 (k + 1) ⟨by omega, fun i hi => ?_⟩ (by omega) (by ((first | refine qen ?_ | refine qvs ?_ | refine qeq ?_ | refine qst ?_ | refine qv ?_ | refine qc ?_ | refine qe ?_ | refine qcs ?_ | skip); (repeat' first | exact rfl | (refine qS ?_; constructor))))
    rcases Nat.lt_succ_iff_lt_or_eq.1 hi with h3 | rfl
    · exact hk.2 i h3
    · exact h
  · (refine rqK rfl ?_; (repeat' first | exact rfl | (refine qS ?_; constructor))); simp only [decide_eq_false_iff_not]
    intro hm
    obtain ⟨i, hi, he⟩ := List.getElem_of_mem hm
    refine hk.2 i (by omega) ?_
    rw [List.getD_eq_getElem?_getD, List.getElem?_eq_getElem hi]; exact he
theorem C44 {l m : List Int} : l.length < 4611686018427387904 → PFD Tryz.prog 44 [.c (ints l), .c (ints m)] (vbl (decide (l = m))) := fun hl => by
  refine pi1 fn44 ?_
  (repeat' first | (refine Owe.same ?_; first | refine Owe.o ?_ | refine Owe.mk ?_ ?_) | (refine Fork.same ?_; (first | refine fkD ?_ ?_ | refine fkN ?_ ?_ | refine fkM ?_ ?_) <;> intro h) | refine MvQ.stay ?_)
  · (refine rqK rfl ?_; (repeat' first | exact rfl | (refine qS ?_; constructor))); simp only [decide_eq_false_iff_not]; intro he; subst he; omega
  · have hlm : l.length = m.length := by omega
    clear h
    refine Sat.lp0 (fun k : Nat => [(5, vi .i64 k), (0, .c (ints l)), (1, .c (ints m))]) (fun k => k ≤ l.length ∧ ∀ i, i < k → l.getD i 0 = m.getD i 0) (fun k => l.length - k) 0 ⟨Nat.zero_le _, fun i hi => by omega⟩ (by ((first | refine qen ?_ | refine qvs ?_ | refine qeq ?_ | refine qst ?_ | refine qv ?_ | refine qc ?_ | refine qe ?_ | refine qcs ?_ | skip); (repeat' first | exact rfl | (refine qS ?_; constructor)))) ?_
    intro k hk
    (repeat' first | (refine Owe.same ?_; first | refine Owe.o ?_ | refine Owe.mk ?_ ?_) | (refine Fork.same ?_; (first | refine fkD ?_ ?_ | refine fkN ?_ ?_ | refine fkM ?_ ?_) <;> intro h) | refine MvQ.stay ?_)
    · simp only [Int.toNat_natCast] at h
      (refine rqK rfl ?_; (repeat' first | exact rfl | (refine qS ?_; constructor))); simp only [decide_eq_false_iff_not]; intro he; subst he; exact h rfl
    · simp only [Int.toNat_natCast] at h
      refine again0 (k + 1) ⟨by omega, fun i hi => ?_⟩ (by omega) (by ((first | refine qen ?_ | refine qvs ?_ | refine qeq ?_ | refine qst ?_ | refine qv ?_ | refine qc ?_ | refine qe ?_ | refine qcs ?_ | skip); (repeat' first | exact rfl | (refine qS ?_; constructor))))
      rcases Nat.lt_succ_iff_lt_or_eq.1 hi with h3 | rfl
      · exact hk.2 i h3
      · exact h
    · (refine rqK rfl ?_; (repeat' first | exact rfl | (refine qS ?_; constructor))); simp only [decide_eq_true_eq]; exact ext_getD 0 hlm fun i hi => hk.2 i (by omega)
end Go.Pw
