/- Steps toward the row of this claim: part 3 of 4. Proved as named below, on no condition but those that each theorem states. -/
import Derived.Test.YtailfkllanegeaaTopSurveyChangedB
import Derived.ProofKit
import Derived.Deep.Slices
import Derived.Test.YtailfkllanegeaaProg
set_option linter.unusedVariables false
namespace Go.Pw
open Go Go.RowKit
structure Owe (p q : Prop) : Prop where
  l : p
  r : q
structure Fork (b : Bool) (p q : Prop) : Prop where
  t : b = true → p
  f : b = false → q
theorem Fork.dec {x p q : Prop} [h : Decidable x] (h1 : x → p) (h2 : ¬ x → q) : Fork (decide x) p q := ⟨fun h => h1 (of_decide_eq_true h), fun h => h2 (of_decide_eq_false h)⟩
theorem Fork.ndec {x p q : Prop} [h : Decidable x] (h1 : ¬ x → p) (h2 : x → q) : Fork (!decide x) p q := ⟨fun h => h1 (by simpa using h), fun h => h2 (by simpa using h)⟩
def flush : Option Prop → Prop → Prop
  | none, q => q
  | some p, q => Owe p q
def andO : Option Prop → Prop → Option Prop
  | none, q => some q
  | some p, q => some (p ∧ q)
def okO : Option Prop → Prop
  | none => True
  | some p => p
theorem flush_iff {p : Option Prop} {q : Prop} (h : flush p q) : okO p ∧ q := by
  cases p with
  | none => exact ⟨trivial, h⟩
  | some p => exact ⟨h.l, h.r⟩
theorem okO_and {p : Option Prop} {q : Prop} (h : okO (andO p q)) : okO p ∧ q := by
  cases p with
  | none => exact ⟨trivial, h⟩
  | some p => exact h
def owesB : BinOp → Bool
  | .add | .sub | .mul | .quo | .rem | .shl | .shr => true
  | _ => false
/-- The operation may owe something. -/
def owes (ev : Operand → V) : LOp → Bool
  | .bin op _ _ => owesB op
  | .un .neg x => match ev x with
    | .c (.fl _) => false
    | _ => true
  | .cplx _ _ | .reC _ | .imC _ | .mkmap _ | .mset _ _ _ _ | .mget _ _ _ _ | .lenM _ | .cap _ => false
  | .un _ _ => false
  | .load _ _ a => match ev a with
    | .c (.ep _ _ _ _) => true
    | _ => false
  | .store _ a _ => match ev a with
    | .c (.ep _ _ _ _) => true
    | _ => false
  | .mv _ | .nilc _ | .pick _ _ _ | .alloc _ | .box _ | .boxS _ | .build _ _ | .eqA _ _ _ _ | .eqB _ _ _ | .mkfn _ _ | .fld _ _ | .part _ _ _ _ | .ext _ _ | .len _ | .lenS _ | .mm _ _ | .binW _ _ _ => false
  | _ => true
theorem bld_some {R : Type} {ev : Operand → V} : ∀ (ps : List (Nat × Nat × Operand)) (cs : List C) (k : List C → Option R) (r : R), bld ev ps cs k = some r → ∃ cs', k cs' = some r
  | [], cs, k, r, h => ⟨cs, h⟩
  | (off, n, x) :: ps, cs, k, r, h => by
    simp only [bld] at h
    split at h
    · split at h
      · rw [frc_eq] at h; exact bld_some ps _ k r h
      · cases h
    · cases h
theorem eqC_some {R : Type} {ks : List Bool} {xs ys : List C} {k : Bool → Option R} {r : R} (h : eqC ks xs ys k = some r) : ∃ b, k b = some r := by
  obtain ⟨bs, _, h⟩ := eqC_inv h
  exact ⟨_, h⟩
theorem owes_false {ev : Operand → V} {σ σ' : Store} {nx nx' : Nat} {op : LOp} {ob : Prop} {v : V} (hw : owes ev op = false) (h : xop ev σ nx op = some (ob, v, σ', nx')) : ob := by
  have fin : ∀ {ob : Prop} {v0 : V} {σ0 : Store} {nx0 : Nat} {r : Res}, (some (True, v0, σ0, nx0) : Option Res) = some r → r.1 := fun h => by cases h; trivial
  cases op with
  | mv x => simp only [xop] at h; split at h <;> first | (cases h; trivial) | cases h
  | nilc x => simp only [xop] at h; split at h <;> first | (cases h; trivial) | cases h
  | pick c a b =>
    simp only [xop] at h
    split at h
    · split at h <;> first | (cases h; trivial) | cases h
    · split at h <;> first | (cases h; trivial) | cases h
    · cases h
  | alloc z => simp only [xop, zeros_eq] at h; cases h; trivial
  | box x => simp only [xop] at h; split at h <;> first | (cases h; trivial) | cases h
  | build z ps =>
    simp only [xop, zeros_eq] at h
    obtain ⟨_, h⟩ := bld_some _ _ _ _ h
    cases h; trivial
  | store n a x =>
    simp only [owes] at hw
    simp only [xop, frc_eq, frs_eq] at h
    split at h
    · (repeat' split at h) <;> first | (cases h; trivial) | cases h
    · rename_i he; rw [he] at hw; cases hw
    · cases h
  | eqA neg ks x y =>
    simp only [xop] at h
    split at h
    · obtain ⟨_, h⟩ := eqC_some h
      split at h <;> (cases h; trivial)
    · cases h
  | eqB neg x y =>
    simp only [xop] at h
    obtain ⟨_, h, _⟩ := vbool_some h
    obtain ⟨_, h, _⟩ := vbool_some h
    split at h <;> (cases h; trivial)
  | un o x =>
    cases o with
    | neg =>
      simp only [owes] at hw
      simp only [xop] at h
      split at h <;> first | (cases h; done) | (rename_i he; rw [he] at hw; cases hw; done) | (cases h; trivial) | (rename_i he _; cases he)
    | not => simp only [xop] at h; split at h <;> first | (cases h; trivial) | cases h | (rename_i hh _; cases hh)
    | _ => simp only [xop] at h; cases h
  | boxS x =>
    simp only [xop] at h
    split at h
    · obtain ⟨_, _, _, h⟩ := toDs_some _ _ _ h
      cases h; trivial
    · cases h
  | mkfn f caps =>
    simp only [xop] at h
    split at h
    · cases h; trivial
    · split at h
      · obtain ⟨_, _, _, h⟩ := rps_some _ _ _ h
        cases h; trivial
      · obtain ⟨_, _, _, h⟩ := ids_some _ _ _ h
        cases h; trivial
  | fld o x => simp only [xop] at h; split at h <;> first | (cases h; trivial) | cases h
  | part g o n x =>
    simp only [xop] at h
    split at h
    · split at h
      · obtain ⟨_, h⟩ := tkc_some _ _ _ _ h; cases h; trivial
      · split at h <;> first | (cases h; trivial) | cases h
    · cases h
  | ext x i => simp only [xop] at h; (repeat' split at h) <;> first | (cases h; trivial) | cases h
  | len x => simp only [xop] at h; (repeat' split at h) <;> first | (cases h; trivial) | cases h
  | lenS x => simp only [xop] at h; (repeat' split at h) <;> first | (cases h; trivial) | cases h
  | cplx x y => simp only [xop] at h; (repeat' split at h) <;> first | (cases h; trivial) | cases h
  | reC x => simp only [xop] at h; (repeat' split at h) <;> first | (cases h; trivial) | cases h
  | imC x => simp only [xop] at h; (repeat' split at h) <;> first | (cases h; trivial) | cases h
  | mkmap m => simp only [xop] at h; cases h; trivial
  | cap x => simp only [xop] at h; (repeat' split at h) <;> first | (cases h; trivial) | cases h
  | mset m a k x => simp only [xop, frs_eq] at h; (repeat' split at h) <;> first | (cases h; trivial) | cases h
  | lenM x => simp only [xop] at h; (repeat' split at h) <;> first | (cases h; trivial) | cases h
  | mget m ok a k => simp only [xop] at h; (repeat' split at h) <;> first | (cases h; trivial) | cases h
  | mm g xs => simp only [xop] at h; (repeat' split at h) <;> first | (cases h; trivial) | cases h
  | bin o x y =>
    simp only [owes] at hw
    simp only [xop] at h
    split at h
    · split at h
      · rename_i ha
        cases h
        unfold binV at ha
        split at ha
        · rename_i hs; cases o <;> simp [isShift] at hs <;> simp [owesB] at hw
        · split at ha
          · cases o <;> simp [owesB] at hw <;> simp only [arith, Option.some.injEq, Prod.mk.injEq, reduceCtorEq] at ha <;> first | exact ha.1 ▸ trivial | exact ha.elim
          · cases ha
      · cases h
    · cases h
  | binW o x y => simp only [xop] at h; (repeat' split at h) <;> first | (cases h; trivial) | cases h
  | load g n a =>
    simp only [owes] at hw
    simp only [xop] at h
    split at h
    · split at h
      · split at h
        · obtain ⟨_, h⟩ := tkc_some _ _ _ _ h; cases h; trivial
        · split at h <;> first | (cases h; trivial) | cases h
      · cases h
    · split at h
      · obtain ⟨_, h⟩ := tkd_some _ _ _ _ h; cases h; trivial
      · split at h <;> first | (cases h; trivial) | cases h
    · rename_i he; rw [he] at hw; simp at hw
    · cases h
  | _ => simp [owes] at hw
section
variable (P : Program) (N base : Nat)
/-- A number, forced. -/
def frNat {R : Type} (n : Nat) (k : Nat → R) : R :=
  match n with
  | 0 => k 0
  | m + 1 => k (m + 1)
theorem frNat_eq {R : Type} (n : Nat) (k : Nat → R) : frNat n k = k n := by cases n <;> rfl
def newName : LOp → Bool
  | .alloc _ | .box _ | .mkmap _ | .slc _ _ _ _ | .litP _ => true
  | .lit own _ _ _ => own
  | .make own _ _ _ _ _ => own
  | .appendN _ _ _ _ _ _ => true
  | .append own _ _ _ _ _ => own
  | _ => false
def putK {R : Type} (dst : Option Nat) (v : V) (env : List (Nat × V)) (k : List (Nat × V) → R) : R :=
  match dst with
  | some d => k ((d, v) :: env)
  | none => k env
theorem putK_eq {R : Type} {dst : Option Nat} {v : V} {env : List (Nat × V)} {k : List (Nat × V) → R} : putK dst v env k = k (putE env dst v) := by cases dst <;> rfl
/-- Where the walk stops at a call. -/
structure OpsL (ops : List LIns) (st : St) (K : St → Prop) : Prop where
  h : Ops P N base ops st K
def runI (i : LIns) (env : List (Nat × V)) (σ : Store) (nx : Nat) (p : Option Prop) (k : List (Nat × V) → Store → Nat → Option Prop → Prop) (stuck : Prop) : Prop :=
  match xop (evo env) σ nx i.op with
  | some (ob, v, σ', nx') => match owes (evo env) i.op with
    | true => match newName i.op with
      | true => frNat nx' fun nx' => putK i.dst v env fun env' => k env' σ' nx' (andO p ob)
      | false => putK i.dst v env fun env' => k env' σ' nx' (andO p ob)
    | false => match newName i.op with
      | true => frNat nx' fun nx' => putK i.dst v env fun env' => k env' σ' nx' p
      | false => putK i.dst v env fun env' => k env' σ' nx' p
  | none => flush p stuck
def wpOps : List LIns → List (Nat × V) → Store → Nat → Option Prop → (St → Prop) → Prop
  | [], env, σ, nx, p, K => flush p (K ⟨env, σ, nx⟩)
  | i :: os, env, σ, nx, p, K => match guardOf env i.guard with
    | .run => runI i env σ nx p (fun env σ nx p => wpOps os env σ nx p K) (OpsL P N base (i :: os) ⟨env, σ, nx⟩ K)
    | .skip => putK i.dst (.tup []) env fun env => wpOps os env σ nx p K
    | .stop => match i.guard with
      | some (t, want) => match lk env t with
        | .c (.d (.v (.bool b))) => match want with
          | true => flush p (Fork b (runI i ((t, .c .tru) :: env) σ nx none (fun env σ nx p => wpOps os env σ nx p K) (OpsL P N base (i :: os) ⟨(t, .c .tru) :: env, σ, nx⟩ K))
              (putK i.dst (.tup []) ((t, .c .fls) :: env) fun env => wpOps os env σ nx none K))
          | false => flush p (Fork b (putK i.dst (.tup []) ((t, .c .tru) :: env) fun env => wpOps os env σ nx none K)
              (runI i ((t, .c .fls) :: env) σ nx none (fun env σ nx p => wpOps os env σ nx p K) (OpsL P N base (i :: os) ⟨(t, .c .fls) :: env, σ, nx⟩ K)))
        | _ => flush p (OpsL P N base (i :: os) ⟨env, σ, nx⟩ K)
      | none => flush p (OpsL P N base (i :: os) ⟨env, σ, nx⟩ K)
variable {P N base}
theorem runI_spec {i : LIns} {os : List LIns} {env : List (Nat × V)} {σ : Store} {nx : Nat} {p : Option Prop} {K : St → Prop} (hg : guardOf env i.guard = .run)
    (ih : ∀ env σ nx p, wpOps P N base os env σ nx p K → okO p ∧ Ops P N base os ⟨env, σ, nx⟩ K)
    (h : runI i env σ nx p (fun env σ nx p => wpOps P N base os env σ nx p K) (OpsL P N base (i :: os) ⟨env, σ, nx⟩ K)) : okO p ∧ Ops P N base (i :: os) ⟨env, σ, nx⟩ K := by
  unfold runI at h
  split at h
  · rename_i ob v σ' nx' hx
    simp only [frNat_eq, putK_eq] at h
    have hgo : ∀ p', wpOps P N base os (putE env i.dst v) σ' nx' p' K → (okO p' → okO p ∧ ob) → okO p ∧ Ops P N base (i :: os) ⟨env, σ, nx⟩ K := fun p' h hp => by
      obtain ⟨h1, h2⟩ := ih _ _ _ _ h
      obtain ⟨h3, h4⟩ := hp h1
      exact ⟨h3, Ops.step (st := ⟨env, σ, nx⟩) (guardOf_run hg) hx h4 h2⟩
    split at h
    · split at h
      · exact hgo _ h okO_and
      · exact hgo _ h okO_and
    · rename_i hw
      split at h
      · exact hgo _ h fun hp => ⟨hp, owes_false hw hx⟩
      · exact hgo _ h fun hp => ⟨hp, owes_false hw hx⟩
  · exact ⟨(flush_iff h).1, (flush_iff h).2.h⟩
theorem Ops.know' {ops : List LIns} {env : List (Nat × V)} {σ : Store} {nx : Nat} {K : St → Prop} (t : Nat) (b : Bool) (h : lk env t = vbl b) (hf : Fork b (Ops P N base ops ⟨(t, .c .tru) :: env, σ, nx⟩ K) (Ops P N base ops ⟨(t, .c .fls) :: env, σ, nx⟩ K)) : Ops P N base ops ⟨env, σ, nx⟩ K :=
  Ops.know (st := ⟨env, σ, nx⟩) t b h hf.t hf.f
theorem wpOps_spec : ∀ (ops : List LIns) (env : List (Nat × V)) (σ : Store) (nx : Nat) (p : Option Prop) (K : St → Prop), wpOps P N base ops env σ nx p K → okO p ∧ Ops P N base ops ⟨env, σ, nx⟩ K
  | [], env, σ, nx, p, K, h => by
    obtain ⟨h1, h2⟩ := flush_iff h
    exact ⟨h1, Ops.nil h2⟩
  | i :: os, env, σ, nx, p, K, h => by
    have ih := fun env σ nx p => wpOps_spec os env σ nx p K
    have hskip : ∀ env, guardOf env i.guard = .skip → ∀ p, (putK i.dst (.tup []) env fun env => wpOps P N base os env σ nx p K) → okO p ∧ Ops P N base (i :: os) ⟨env, σ, nx⟩ K := fun env hg p h => by
      rw [putK_eq] at h
      obtain ⟨h1, h2⟩ := ih _ _ _ _ h
      exact ⟨h1, Ops.skip (st := ⟨env, σ, nx⟩) (guardOf_skip hg) h2⟩
    unfold wpOps at h
    split at h
    · rename_i hg; exact runI_spec hg ih h
    · rename_i hg; exact hskip env hg p h
    · rename_i hg
      split at h
      · rename_i t want hgu
        have gT : guardOf ((t, .c .tru) :: env) i.guard = (match want with | true => .run | false => .skip) := by
          cases want <;> simp [hgu, guardOf, lk_cons]
        have gF : guardOf ((t, .c .fls) :: env) i.guard = (match want with | true => .skip | false => .run) := by
          cases want <;> simp [hgu, guardOf, lk_cons]
        split at h
        · rename_i b hb
          split at h
          · obtain ⟨h1, h2⟩ := flush_iff h
            exact ⟨h1, Ops.know' t b hb ⟨fun hh => (runI_spec gT ih (h2.t hh)).2, fun hh => (hskip _ gF _ (h2.f hh)).2⟩⟩
          · obtain ⟨h1, h2⟩ := flush_iff h
            exact ⟨h1, Ops.know' t b hb ⟨fun hh => (hskip _ gT _ (h2.t hh)).2, fun hh => (runI_spec gF ih (h2.f hh)).2⟩⟩
        · exact ⟨(flush_iff h).1, (flush_iff h).2.h⟩
      · exact ⟨(flush_iff h).1, (flush_iff h).2.h⟩
theorem Ops.wp {ops : List LIns} {env : List (Nat × V)} {σ : Store} {nx : Nat} {K : St → Prop} (h : wpOps P N base ops env σ nx none K) : Ops P N base ops ⟨env, σ, nx⟩ K := (wpOps_spec _ _ _ _ _ _ h).2
end
end Go.Pw

set_option linter.unusedVariables false
namespace Go.Pw
open Go Go.RowKit
section
variable (P : Program) (N base : Nat) (M : List Nat)
def isLoad : LOp → Bool
  | .load _ _ _ => true
  | _ => false
theorem load_same {ev : Operand → V} {σ σ' : Store} {nx nx' : Nat} {op : LOp} {ob : Prop} {v : V} (hl : isLoad op = true) (h : xop ev σ nx op = some (ob, v, σ', nx')) : σ' = σ := by
  cases op with
  | load g n a =>
    simp only [xop] at h
    split at h
    · split at h
      · split at h
        · obtain ⟨_, h⟩ := tkc_some _ _ _ _ h; cases h; rfl
        · split at h <;> first | (cases h; rfl) | cases h
      · cases h
    · split at h
      · obtain ⟨_, h⟩ := tkd_some _ _ _ _ h; cases h; rfl
      · split at h <;> first | (cases h; rfl) | cases h
    · split at h
      · split at h
        · split at h
          · obtain ⟨_, h⟩ := tkd_some _ _ _ _ h; cases h; rfl
          · split at h <;> first | (cases h; rfl) | cases h
        · cases h
      · cases h
    · cases h
  | _ => simp [isLoad] at hl
def runID (i : LIns) (env : List (Nat × V)) (σ : Store) (nx : Nat) (p : Option Prop) (acc : List (Bool × List Nat)) (k : List (Nat × V) → Store → Nat → Option Prop → List (Bool × List Nat) → Prop) (stuck : Prop) : Prop :=
  match xop (evo env) (pickS σ (foot (evo env) i.op)) nx i.op with
  | some (ob, v, σ1, _) => match owes (evo env) i.op with
    | true => match foot (evo env) i.op, σ1 with
      | [], [] => frNat (nx + 1) fun nx' => putK i.dst v env fun env' => k env' σ nx' (andO p ob) ((true, []) :: acc)
      | ft, σ1 => frS (app (pickS σ ft) σ1 σ) fun σ' => frN (dom (pickS σ ft) ++ dom σ1) fun fp => frNat (nx + 1) fun nx' => putK i.dst v env fun env' => k env' σ' nx' (andO p ob) ((isLoad i.op, fp) :: acc)
    | false => match foot (evo env) i.op, σ1 with
      | [], [] => frNat (nx + 1) fun nx' => putK i.dst v env fun env' => k env' σ nx' p ((true, []) :: acc)
      | ft, σ1 => frS (app (pickS σ ft) σ1 σ) fun σ' => frN (dom (pickS σ ft) ++ dom σ1) fun fp => frNat (nx + 1) fun nx' => putK i.dst v env fun env' => k env' σ' nx' p ((isLoad i.op, fp) :: acc)
  | none => flush p stuck
abbrev OpsD' (ops : List LIns) (st : St) (acc : List (Bool × List Nat)) (K : St → Prop) : Prop := OpsD P N base M 0 [] ops st acc K
structure OpsDL (ops : List LIns) (st : St) (acc : List (Bool × List Nat)) (K : St → Prop) : Prop where
  h : OpsD P N base M 0 [] ops st acc K
def wpD : List LIns → List (Nat × V) → Store → Nat → Option Prop → List (Bool × List Nat) → (St → Prop) → Prop
  | [], env, σ, nx, p, acc, K => match fpAll M 0 acc.reverse with
    | true => flush p (K ⟨env, σ, nx⟩)
    | false => False
  | i :: os, env, σ, nx, p, acc, K => match guardOf env i.guard with
    | .run => runID i env σ nx p acc (fun env σ nx p acc => wpD os env σ nx p acc K) (OpsDL P N base M (i :: os) ⟨env, σ, nx⟩ acc K)
    | .skip => putK i.dst (.tup []) env fun env => wpD os env σ nx p ((true, []) :: acc) K
    | .stop => match i.guard with
      | some (t, want) => match lk env t with
        | .c (.d (.v (.bool b))) => match want with
          | true => flush p (Fork b (runID i ((t, .c .tru) :: env) σ nx none acc (fun env σ nx p acc => wpD os env σ nx p acc K) (OpsDL P N base M (i :: os) ⟨(t, .c .tru) :: env, σ, nx⟩ acc K))
              (putK i.dst (.tup []) ((t, .c .fls) :: env) fun env => wpD os env σ nx none ((true, []) :: acc) K))
          | false => flush p (Fork b (putK i.dst (.tup []) ((t, .c .tru) :: env) fun env => wpD os env σ nx none ((true, []) :: acc) K)
              (runID i ((t, .c .fls) :: env) σ nx none acc (fun env σ nx p acc => wpD os env σ nx p acc K) (OpsDL P N base M (i :: os) ⟨(t, .c .fls) :: env, σ, nx⟩ acc K)))
        | _ => flush p (OpsDL P N base M (i :: os) ⟨env, σ, nx⟩ acc K)
      | none => flush p (OpsDL P N base M (i :: os) ⟨env, σ, nx⟩ acc K)
variable {P N base M}
theorem runID_spec {i : LIns} {os : List LIns} {env : List (Nat × V)} {σ : Store} {nx : Nat} {p : Option Prop} {acc : List (Bool × List Nat)} {K : St → Prop} (hg : guardOf env i.guard = .run)
    (ih : ∀ env σ nx p acc, wpD P N base M os env σ nx p acc K → okO p ∧ OpsD' P N base M os ⟨env, σ, nx⟩ acc K)
    (h : runID i env σ nx p acc (fun env σ nx p acc => wpD P N base M os env σ nx p acc K) (OpsDL P N base M (i :: os) ⟨env, σ, nx⟩ acc K)) : okO p ∧ OpsD' P N base M (i :: os) ⟨env, σ, nx⟩ acc K := by
  unfold runID at h
  split at h
  · rename_i ob v σ1 nx1 hx
    simp only [frNat_eq, putK_eq, frS_eq, frN_eq] at h
    have hgo : ∀ (rd : Bool) p', (rd = true → σ1 = pickS σ (foot (evo env) i.op)) → wpD P N base M os (putE env i.dst v) (app (pickS σ (foot (evo env) i.op)) σ1 σ) (nx + 1) p' ((rd, dom (pickS σ (foot (evo env) i.op)) ++ dom σ1) :: acc) K → (okO p' → okO p ∧ ob) → okO p ∧ OpsD' P N base M (i :: os) ⟨env, σ, nx⟩ acc K := fun rd p' hrd h hp => by
      obtain ⟨h1, h2⟩ := ih _ _ _ _ _ h
      obtain ⟨h3, h4⟩ := hp h1
      exact ⟨h3, OpsD.step (k := 0) (st := ⟨env, σ, nx⟩) (VStep.xop hg hx h4) (pickS_sub _) (Nat.le_refl _) (Nat.le_succ _) rd hrd h2⟩
    split at h
    · split at h
      · rename_i hft
        have := fun p' => hgo true p' (fun _ => by rw [hft]; rfl)
        simp only [hft, pickS, app, catS, dom, delD, List.append_nil] at this
        exact this _ h okO_and
      · exact hgo _ _ (fun hl => load_same hl hx) h okO_and
    · rename_i hw
      split at h
      · rename_i hft
        have := fun p' => hgo true p' (fun _ => by rw [hft]; rfl)
        simp only [hft, pickS, app, catS, dom, delD, List.append_nil] at this
        exact this _ h fun hp => ⟨hp, owes_false hw hx⟩
      · exact hgo _ _ (fun hl => load_same hl hx) h fun hp => ⟨hp, owes_false hw hx⟩
  · exact ⟨(flush_iff h).1, (flush_iff h).2.h⟩
theorem OpsD.know' {ops : List LIns} {env : List (Nat × V)} {σ : Store} {nx : Nat} {acc : List (Bool × List Nat)} {K : St → Prop} (t : Nat) (b : Bool) (h : lk env t = vbl b) (hf : Fork b (OpsD' P N base M ops ⟨(t, .c .tru) :: env, σ, nx⟩ acc K) (OpsD' P N base M ops ⟨(t, .c .fls) :: env, σ, nx⟩ acc K)) : OpsD' P N base M ops ⟨env, σ, nx⟩ acc K :=
  OpsD.know (st := ⟨env, σ, nx⟩) t b h hf.t hf.f
theorem wpD_spec : ∀ (ops : List LIns) (env : List (Nat × V)) (σ : Store) (nx : Nat) (p : Option Prop) (acc : List (Bool × List Nat)) (K : St → Prop), wpD P N base M ops env σ nx p acc K → okO p ∧ OpsD' P N base M ops ⟨env, σ, nx⟩ acc K
  | [], env, σ, nx, p, acc, K, h => by
    unfold wpD at h
    split at h
    · rename_i hf
      obtain ⟨h1, h2⟩ := flush_iff h
      exact ⟨h1, OpsD.nil hf h2⟩
    · exact h.elim
  | i :: os, env, σ, nx, p, acc, K, h => by
    have ih := fun env σ nx p acc => wpD_spec os env σ nx p acc K
    have hskip : ∀ env, guardOf env i.guard = .skip → ∀ p, (putK i.dst (.tup []) env fun env => wpD P N base M os env σ nx p ((true, []) :: acc) K) → okO p ∧ OpsD' P N base M (i :: os) ⟨env, σ, nx⟩ acc K := fun env hg p h => by
      rw [putK_eq] at h
      obtain ⟨h1, h2⟩ := ih _ _ _ _ _ h
      exact ⟨h1, OpsD.step (k := 0) (σ0 := []) (σ1 := []) (st := ⟨env, σ, nx⟩) (VStep.skip (lo := nx) hg) (fun id e h => by simp [get] at h) (Nat.le_refl _) (Nat.le_refl _) true (fun _ => rfl) h2⟩
    unfold wpD at h
    split at h
    · rename_i hg; exact runID_spec hg ih h
    · rename_i hg; exact hskip env hg p h
    · rename_i hg
      split at h
      · rename_i t want hgu
        have gT : guardOf ((t, .c .tru) :: env) i.guard = (match want with | true => .run | false => .skip) := by
          cases want <;> simp [hgu, guardOf, lk_cons]
        have gF : guardOf ((t, .c .fls) :: env) i.guard = (match want with | true => .skip | false => .run) := by
          cases want <;> simp [hgu, guardOf, lk_cons]
        split at h
        · rename_i b hb
          split at h
          · obtain ⟨h1, h2⟩ := flush_iff h
            exact ⟨h1, OpsD.know' t b hb ⟨fun hh => (runID_spec gT ih (h2.t hh)).2, fun hh => (hskip _ gF _ (h2.f hh)).2⟩⟩
          · obtain ⟨h1, h2⟩ := flush_iff h
            exact ⟨h1, OpsD.know' t b hb ⟨fun hh => (hskip _ gT _ (h2.t hh)).2, fun hh => (runID_spec gF ih (h2.f hh)).2⟩⟩
        · exact ⟨(flush_iff h).1, (flush_iff h).2.h⟩
      · exact ⟨(flush_iff h).1, (flush_iff h).2.h⟩
theorem OpsD.wp {ops : List LIns} {env : List (Nat × V)} {σ : Store} {nx : Nat} {acc : List (Bool × List Nat)} {K : St → Prop} (h : wpD P N base M ops env σ nx none acc K) : OpsD' P N base M ops ⟨env, σ, nx⟩ acc K := (wpD_spec _ _ _ _ _ _ _ h).2
end
theorem Mv.nilms {base : Nat} {env : List (Nat × V)} {σ : Store} {nx : Nat} (t : Nat) (e : TypeId) (s : Nat) (f : Nat → List D) (h : lk env t = .c (.d (.v (.slice none 0 0)))) : Mv base ⟨env, σ, nx⟩ ⟨(t, .c (.ms nx 0)) :: env, (nx, .row e s 0 f false) :: σ, nx + 1⟩ :=
  fun _ _ _ _ _ hc => hc.nilms (st := ⟨env, σ, nx⟩) e s f h
theorem Mv.freeze {base : Nat} {env : List (Nat × V)} {σ : Store} {nx : Nat} (t id : Nat) {n : Nat} {e : TypeId} {s m : Nat} {f : Nat → List D} {fz : Bool} (h : lk env t = .c (.ms id n)) (hg : get σ id = some (.row e s m f fz)) (hn : n ≤ m) :
    Mv base ⟨env, σ, nx⟩ ⟨(t, .c (.d (.sl s n f))) :: env, set σ id (.row e s m f true), nx⟩ := fun N B0 Γ w a hc => by
  obtain ⟨Γ', b, hb, rfl, h1, h2⟩ := hc.freeze hg
  refine ⟨_, ⟨h1.size, fun t' => ?_, h1.ok, h1.free, h1.le, h1.dfs⟩, h2⟩
  rw [lk_cons]
  split
  · rename_i ht
    subst ht
    have := hc.env t
    rw [h] at this
    cases this with
    | c _ _ hr =>
      obtain ⟨b', hb', hd⟩ := ms_data hc.ok hg hn hr
      rw [hb] at hb'; cases hb'
      exact .c _ _ (hd _ (fun k hk => .inl hk) (fun hcc => .inr ⟨rfl, hcc⟩))
  · exact h1.env t'
/-- Slots say less. -/
theorem Mv.env {base : Nat} {env env' : List (Nat × V)} {σ : Store} {nx : Nat} (h : ∀ t, RI (lk env t) (lk env' t)) : Mv base ⟨env, σ, nx⟩ ⟨env', σ, nx⟩ := fun _ _ Γ _ _ hc => ⟨Γ, hc.same h fun _ => rfl, Ext.refl _ _ _ _⟩
theorem Mv.dd {base : Nat} {env : List (Nat × V)} {σ : Store} {nx : Nat} : Mv base ⟨env, σ, nx⟩ ⟨Pw.dd env [], σ, nx⟩ :=
  Mv.env fun t => by rw [lk_dd _ _ _ (by simp)]; exact RI.refl _
structure MvQ (base : Nat) (Q : Exit → St → Prop) (e : Exit) (st : St) : Prop where
  h : ∃ st1, Mv base st st1 ∧ Q e st1
section
variable {P : Program} {N base : Nat} {st st1 : St} {Q : Exit → St → Prop} {x : LCode}
theorem Sat.mv (h : Sat P N base x st (MvQ base Q)) : Sat P N base x st Q := by
  intro ro n B0 own code hro hl Γ0 Γ w0 w σ0 a hc hext
  refine wpIn_mono (h ro n B0 own code hro hl Γ0 Γ w0 w σ0 a hc hext) (fun e a' w' ⟨Γ', st', h1, h2, ⟨st2, h3, h4⟩⟩ => ?_)
  obtain ⟨Γ'', h5, h6⟩ := h3 _ _ _ _ _ h1
  exact ⟨Γ'', st2, h5, h2.trans h6, h4⟩
theorem Sat.from (hm : Mv base st st1) (h : Sat P N base x st1 Q) : Sat P N base x st Q := by
  intro ro n B0 own code hro hl Γ0 Γ w0 w σ0 a hc hext
  obtain ⟨Γ', h1, h2⟩ := hm _ _ _ _ _ hc
  exact h ro n B0 own code hro hl Γ0 Γ' w0 w σ0 a h1 (hext.trans h2)
theorem Ops.from {ops : List LIns} {K : St → Prop} (hm : Mv base st st1) (h : Ops P N base ops st1 K) : Ops P N base ops st K := by
  intro ro n B0 own opsA idx os hl hidx Γ0 Γ w0 w σ0 a hc hext
  obtain ⟨Γ', h1, h2⟩ := hm _ _ _ _ _ hc
  exact h ro n B0 own opsA idx os hl hidx Γ0 Γ' w0 w σ0 a h1 (hext.trans h2)
theorem MvQ.stay {e : Exit} (h : Q e st) : MvQ base Q e st := ⟨st, Mv.refl _ _, h⟩
theorem MvQ.from {e : Exit} (hm : Mv base st st1) (h : MvQ base Q e st1) : MvQ base Q e st := by
  obtain ⟨s2, h1, h2⟩ := h
  exact ⟨s2, hm.trans h1, h2⟩
end
section
variable (P : Program) (N base : Nat)
/-- Where the walk stops at a loop. -/
structure SatL (x : LCode) (st : St) (Q : Exit → St → Prop) : Prop where
  h : Sat P N base x.strip st Q
def wp : LCode → St → (Exit → St → Prop) → Prop
  | .skip, st, Q => Q .normal st
  | .exit id, st, Q => Q (.exit id) st
  | .ret, st, Q => Q .ret st
  | .region ops, ⟨env, σ, nx⟩, Q => wpOps P N base ops env σ nx none fun st => Q .normal st
  | .regionD ops M _, ⟨env, σ, nx⟩, Q => wpD P N base M ops env σ nx none [] fun st => Q .normal st
  | .seq a b, st, Q => wp a st fun e st => match e with
    | .normal => wp b st Q
    | e => Q e st
  | .cond c a b, ⟨env, σ, nx⟩, Q => match evo env c with
    | .c .tru => wp a ⟨env, σ, nx⟩ Q
    | .c .fls => wp b ⟨env, σ, nx⟩ Q
    | .c (.d (.v (.bool p))) => match c with
      | .tmp t => Fork p (wp a ⟨(t, .c .tru) :: env, σ, nx⟩ Q) (wp b ⟨(t, .c .fls) :: env, σ, nx⟩ Q)
      | _ => False
    | _ => False
  | .block id a, st, Q => wp a st fun e st => match e with
    | .exit k => match Nat.beq k id with
      | true => Q .normal st
      | false => Q (.exit k) st
    | e => Q e st
  | .loop a, st, Q => SatL P N base (.loop a) st (MvQ base Q)
  | .rangeFunc f ps a c, st, Q => SatL P N base (.rangeFunc f ps a c) st (MvQ base Q)
  | .label, st, Q => Q .normal st
  | .stop a, st, Q => SatL P N base a st Q
  | .scope a, st, Q => wp a st fun e st => match e with
    | .goto _ => False
    | e => Q e st
variable {P N base}
theorem wp_spec [m : Mix P] : ∀ (x : LCode) (st : St) (Q : Exit → St → Prop), wp P N base x st Q → Sat P N base x.strip st Q
  | .skip, st, Q, h => Sat.skip h
  | .exit id, st, Q, h => Sat.exit h
  | .ret, st, Q, h => Sat.ret h
  | .region ops, ⟨env, σ, nx⟩, Q, h => Sat.region (Ops.wp h)
  | .regionD ops M ks, ⟨env, σ, nx⟩, Q, h => Sat.drawn m.h (OpsD.wp h)
  | .seq a b, st, Q, h => Sat.seq ((wp_spec a st _ h).mono fun e st h => by
    cases e with
    | normal => exact wp_spec b st Q h
    | _ => exact h)
  | .cond c a b, ⟨env, σ, nx⟩, Q, h => by
    unfold wp at h
    split at h
    · rename_i hv; exact Sat.condT hv (wp_spec a _ Q h)
    · rename_i hv; exact Sat.condF hv (wp_spec b _ Q h)
    · rename_i p hv
      split at h
      · exact Sat.cond hv (fun hh => wp_spec a _ Q (h.t hh)) (fun hh => wp_spec b _ Q (h.f hh))
      · exact h.elim
    · exact h.elim
  | .block id a, st, Q, h => Sat.block ((wp_spec a st _ h).mono fun e st h => by
    cases e with
    | exit k =>
      simp only [blockQ]
      simp only at h
      split at h
      · rename_i hb; rw [if_pos hb]; exact h
      · rename_i hb; rw [if_neg (by rw [hb]; simp)]; exact h
    | _ => exact h)
  | .loop a, st, Q, h => Sat.mv h.h
  | .rangeFunc f ps a c, st, Q, h => Sat.mv h.h
  | .label, st, Q, h => Sat.label h
  | .stop a, st, Q, h => h.h
  | .scope a, st, Q, h => Sat.scope ((wp_spec a st _ h).mono fun e st h => by
    cases e with
    | goto l => exact h.elim
    | _ => exact h)
end
end Go.Pw

set_option linter.unusedVariables false
namespace Go.Pw
open Go Go.RowKit
section
variable {P : Program} {N base : Nat} {st : St} {Q : Exit → St → Prop}
theorem low_rangeFunc {own : List Nat} {code : Code} {f : Operand} {ps : List Nat} {la lb : LCode} (h : lowCode P N own code = some (.rangeFunc f ps la lb)) :
    ∃ qs a c, code = .rangeFunc f qs a c ∧ qs.toList = ps ∧ lowCode P N own a = some la ∧ lowCode P N own c = some lb := by
  cases code with
  | rangeFunc g qs a c =>
    simp only [lowCode, Option.bind_eq_bind, Option.bind_eq_some_iff, Option.some.injEq] at h
    obtain ⟨x, hx, y, hy, h⟩ := h
    cases h
    exact ⟨qs, a, c, rfl, rfl, hx, hy⟩
  | region id ops draw =>
    simp only [lowCode, Option.bind_eq_bind, Option.bind_eq_some_iff] at h
    obtain ⟨l, hl, h⟩ := h
    split at h
    · split at h <;> simp at h
    · simp at h
  | _ => simp [lowCode, Option.bind_eq_some_iff] at h
/-- A new block that is nobody's. -/
theorem alloc_mark {base : Nat} {Γ : Cx} {w : World} {σ : Store} (h : StoreOk Γ w σ) (o : Obj) : StoreOk Γ (w.alloc o) σ ∧ Ext base Γ w σ Γ (w.alloc o) σ :=
  ⟨h.keep (CxLe.refl _) (fun k hI => by have := h.im k hI; simp; omega) (alloc_same h o) (fun k hl => heap_alloc (h.live_lt hl)) (fun k hl hI => h.not_live hI hl),
    Ext.grow (Γ := Γ) (Γ' := Γ) (w := w) (w' := w.alloc o) (fun _ _ => rfl) (fun _ _ => rfl) (fun _ h => h) (fun k h => .inl h) rfl rfl rfl (by simp) (fun k hk _ => heap_alloc hk) _ (fun k hk => .inl hk)⟩
/-- How a range over a function ends. -/
def rangeQ (id : Nat) (env : List (Nat × V)) (Q : Exit → St → Prop) (σ' : Store) (nx' : Nat) : Prop :=
  match get σ' id with
  | some (.lp _ .ready none _) => Q .normal ⟨env, del σ' id, nx'⟩
  | some (.lp _ .done (some .ret) _) => Q .ret ⟨env, del σ' id, nx'⟩
  | some (.lp _ .done (some (.exit k)) _) => Q (.exit k) ⟨env, del σ' id, nx'⟩
  | _ => False
theorem rangeQ_iff {id : Nat} {env : List (Nat × V)} {σ' : Store} {nx' : Nat} (h : rangeQ id env Q σ' nx') :
    ∃ env' s j R, get σ' id = some (.lp env' s j R) ∧ s ≠ .busy ∧ ((j = none ∧ Q .normal ⟨env, del σ' id, nx'⟩) ∨ (j = some .ret ∧ Q .ret ⟨env, del σ' id, nx'⟩) ∨ ∃ k, j = some (.exit k) ∧ Q (.exit k) ⟨env, del σ' id, nx'⟩) := by
  unfold rangeQ at h
  split at h
  · rename_i e R hg; exact ⟨_, _, _, _, hg, by simp, .inl ⟨rfl, h⟩⟩
  · rename_i e R hg; exact ⟨_, _, _, _, hg, by simp, .inr (.inl ⟨rfl, h⟩)⟩
  · rename_i e k R hg; exact ⟨_, _, _, _, hg, by simp, .inr (.inr ⟨_, rfl, h⟩)⟩
  · exact h.elim
theorem Sat.rangeFunc {f : Operand} {ps : List Nat} {la lb : LCode} {fid : FuncId} {ids : List Nat} (hf : evo st.env f = .c (.fn fid ids)) (hps : ps.all (fun p => decide (p < N)) = true)
    (h : CallS P fid (.c (.yd st.nx) :: ids.map fun k => .c (.bp k 0)) ((st.nx, .lp st.env .ready none (RR P N ps la lb)) :: st.σ) (st.nx + 1) fun _ σ' nx' => rangeQ st.nx st.env Q σ' nx') :
    Sat P N base (.rangeFunc f ps la lb) st Q := by
  intro ro n B0 own code hro hl Γ0 Γ w0 w σ0 a hc hext
  obtain ⟨qs, ca, cb, rfl, hqs, hla, hlb⟩ := low_rangeFunc hl
  have hro' := hro rfl
  subst hro'
  have hfr := hc.ev f
  rw [hf] at hfr
  obtain ⟨bs, hbl, hbs, hfu⟩ : ∃ bs : List Nat, bs.length = ids.length ∧ (∀ (j i : Nat), ids[j]? = some i → ∃ b, Γ.ρ i = some b ∧ bs[j]? = some b) ∧ a.eval f = .func (.func fid) #[] (bs.map fun b => ptr b 0).toArray := by
    generalize a.eval f = u at hfr ⊢
    cases hfr with | c _ _ h => exact h
  refine wpIn_rangeFunc (fun fn _ => ?_)
  let wa := w.alloc (.deferred (some []))
  have hsza : wa.heap.size = w.heap.size + 1 := by simp [wa]
  let r0 : Loop := { state := .ready, pending := none, fn, tmps := a.tmps, params := qs, assign := ca, body := cb, defers := w.heap.size }
  let w1 := wa.alloc (.loop r0)
  obtain ⟨hsta, hexta⟩ := alloc_mark (base := st.nx) hc.ok (.deferred (some []))
  have hid := hc.free st.nx (Nat.le_refl _)
  have hRR : RR P N ps la lb { r0 with state := .ready, pending := none } :=
    ⟨hc.size, hqs, fun p hp => by simpa using List.all_eq_true.1 hps p hp, own, hla, hlb⟩
  have hent : EntOk (Γ.upd st.nx wa.heap.size none) (wa.alloc (.loop r0)) st.nx wa.heap.size (.lp st.env .ready none (RR P N ps la lb)) := by
    refine ⟨fun hI => ?_, r0, heap_alloc_new' _ _, rfl, rfl, hRR, fun t => ?_⟩
    · have := hc.ok.im _ hI; omega
    · exact (hc.env t).mono (CxLe.upd _ _ _ hid) (fun k hk => by
        have := hc.ok.im k hk
        rw [heap_alloc (by omega), show wa.heap[k]? = w.heap[k]? from heap_alloc this])
  obtain ⟨hst1, hext1⟩ := alloc_ent (base := st.nx) hsta hid (Nat.le_refl _) (.loop r0) none _ hent
  have hrep : RepL (Γ.upd st.nx wa.heap.size none) w1 (.c (.yd st.nx) :: ids.map fun k => .c (.bp k 0)) (#[Value.func (.yield (w.heap.size + 1)) #[] #[]] ++ (bs.map fun b => ptr b 0).toArray) := by
    refine ⟨by simp [hbl], fun j v u hv hu => ?_⟩
    cases j with
    | zero =>
      simp at hv hu
      subst hv; subst hu
      exact .c _ _ ⟨wa.heap.size, upd_ρ_same, by rw [hsza]⟩
    | succ j =>
      simp only [List.getElem?_cons_succ, List.getElem?_map, Option.map_eq_some_iff] at hv
      obtain ⟨k, hk, rfl⟩ := hv
      obtain ⟨b, hb, hb'⟩ := hbs j k hk
      rw [Array.getElem?_append_right (by simp)] at hu
      simp [hb'] at hu
      subst hu
      refine .c _ _ ⟨b, ?_, rfl⟩
      rw [upd_ρ (fun e => by rw [e] at hb; rw [hid] at hb; cases hb)]; exact hb
  have hfree1 : ∀ id, st.nx + 1 ≤ id → (Γ.upd st.nx wa.heap.size none).ρ id = none := fun id h => by
    rw [upd_ρ (by omega)]; exact hc.free id (by omega)
  have hres : (resolve a.eval (rangeCall f (w.heap.size + 1)) 0).run P w1 = .ok { target := .fn (.func fid) (bs.map fun b => ptr b 0).toArray, args := #[.func (.yield (w.heap.size + 1)) #[] #[]] } w1 := by
    unfold resolve
    simp only [hfu, Deferred.ofValue]
    simp [Act.eval]
  have he : (Instr.enterLoop fn a.tmps qs ca cb (FW none).round).run P w = .ok (w.heap.size + 1, [mkD w.heap.size]) w1 := run_enterLoop_outer fn a.tmps qs ca cb
  have hinv : (invoke (Target.fn (.func fid) (bs.map fun b => ptr b 0).toArray) #[.func (.yield (w.heap.size + 1)) #[] #[]]).run P w1 = .ok (.enter fid (#[.func (.yield (w.heap.size + 1)) #[] #[]] ++ (bs.map fun b => ptr b 0).toArray)) w1 := h.1 _ _
  have hcall := h.2 _ w1 _ hst1 hfree1 hrep
  have hpost : ∀ e w', (∃ u v Γ' σ' nx', e = .returned u ∧ rangeQ st.nx st.env Q σ' nx' ∧ RepV Γ' w' v u ∧ StoreOk Γ' w' σ' ∧ Ext (st.nx + 1) (Γ.upd st.nx wa.heap.size none) w1 ((st.nx, .lp st.env .ready none (RR P N ps la lb)) :: st.σ) Γ' w' σ' ∧ (∀ id, nx' ≤ id → Γ'.ρ id = none) ∧ st.nx + 1 ≤ nx') →
      rangePost (FW none) n P (w.heap.size + 1) (Post N B0 base Γ0 w0 σ0 Q) { a with defers := [mkD w.heap.size] ++ a.defers } e w' := by
    rintro e w' ⟨u, v, Γ', σ', nx', rfl, hR, hv, hst', hext', hfree', hle'⟩
    obtain ⟨env', s, j, R, hlp, hsb, hj⟩ := rangeQ_iff hR
    obtain ⟨b, r, hb, hh, hs, hjr, _, _⟩ := lp_rec hst' hlp
    have hb1 : b = w.heap.size + 1 := by
      rw [hext'.ρ st.nx (Nat.lt_succ_self _), upd_ρ_same] at hb
      cases hb; rw [hsza]
    subst hb1
    have hend := run_endLoop (P := P) hh (by rw [hs]; exact hsb)
    let w4 := w'.putObj (w.heap.size + 1) (.loop { r with state := .exhausted })
    obtain ⟨hst4, hext4⟩ := set_lp (s' := .exhausted) (j' := r.pending) hst' hlp hb hh
    have hsub : Sub (del σ' st.nx) (set σ' st.nx (.lp env' .exhausted r.pending R)) := fun id x hx => by
      by_cases he : id = st.nx
      · subst he; rw [get_del_same] at hx; cases hx
      · rw [get_del_other he] at hx; rw [get_set_other he]; exact hx
    have hst5 : StoreOk Γ' w4 (del σ' st.nx) := hst4.sub hsub
    have hE : Ext st.nx Γ wa st.σ Γ' w4 (del σ' st.nx) := by
      have h1 := (hext1.trans (hext'.mono (Nat.le_succ _))).trans (hext4 st.nx)
      exact ⟨h1.os, h1.tape, h1.output, h1.size, h1.im, h1.new, h1.ρ, h1.κ, h1.keep, fun k hk => h1.live k (live_sub hsub hk)⟩
    have hEw : Ext st.nx Γ w st.σ Γ' w4 (del σ' st.nx) := hexta.trans hE
    have hle : CxLe Γ Γ' := ext_cxle hEw hc.free
    have hsame := hEw.same hc.ok
    have hconc : Conc N B0 base Γ' w4 ⟨st.env, del σ' st.nx, nx'⟩ { a with defers := [mkD w.heap.size] ++ a.defers } := by
      refine ⟨hc.size, fun t => (hc.env t).mono hle hsame, hst5, hfree', by have := hc.le; show base ≤ nx'; omega, ?_⟩
      obtain ⟨Ds, d1, d2, d3⟩ := hc.dfs
      have hnl : ¬ Live Γ st.σ w.heap.size := fun hl => Nat.lt_irrefl _ (hc.ok.live_lt hl)
      refine ⟨w.heap.size :: Ds, by simp [d1], ⟨List.nodup_cons.2 ⟨fun hm => ?_, d2.1⟩, Nat.le_trans d2.2 hEw.size⟩, fun D hD => ?_⟩
      · have := (Array.getElem?_eq_some_iff.1 (d3 _ hm).2.2.2).1; omega
      · rcases List.mem_cons.1 hD with rfl | hD
        · refine ⟨d2.2, fun hi => ?_, fun hlv => ?_, ?_⟩
          · rcases hE.new _ hi with h1 | h1 | h1
            · exact Nat.lt_irrefl _ (hc.ok.im _ h1)
            · omega
            · exact hnl h1
          · rcases hE.live _ hlv with h1 | h1
            · exact hnl h1
            · omega
          · rw [hE.keep _ (by omega) hnl]; exact heap_alloc_new' _ _
        · obtain ⟨d4, d5, d6, d7⟩ := d3 D hD
          have hlt : D < w.heap.size := (Array.getElem?_eq_some_iff.1 d7).1
          refine ⟨d4, fun hi => ?_, fun hlv => ?_, (hEw.keep D hlt d6).trans d7⟩
          · rcases hEw.new D hi with h1 | h1 | h1
            · exact d5 h1
            · omega
            · exact d6 h1
          · rcases hEw.live D hlv with h1 | h1
            · exact d6 h1
            · omega
    have hEx : Ext base Γ0 w0 σ0 Γ' w4 (del σ' st.nx) := hext.trans (hEw.mono hc.le)
    refine ⟨r.pending, w4, hend, ?_⟩
    rcases hj with ⟨rfl, hq⟩ | ⟨rfl, hq⟩ | ⟨k, rfl, hq⟩
    · rw [hjr]; exact ⟨Γ', _, hconc, hEx, hq⟩
    · rw [hjr]; exact wpIn_ret ⟨Γ', _, hconc, hEx, hq⟩
    · rw [hjr]; exact wpIn_exit ⟨Γ', _, hconc, hEx, hq⟩
  exact ⟨w.heap.size + 1, [mkD w.heap.size], w1, _, w1, fid, _, w1, he, hres, fun _ _ => trivial, hinv, fun h => by simp [FW, Fence.wide] at h, Calls.fw (hcall.mono hpost)⟩
end
end Go.Pw

set_option linter.unusedVariables false
set_option linter.unusedSectionVars false
namespace Go.Pw
open Go Go.RowKit
/-- A function's lowered code. -/
structure FnOk (P : Program) (f : FuncId) (N : Nat) (lc : LCode) (rl : List RL) : Prop where
  ent : Ent1 P f
  ok : ∃ own fn, P.funcs[f]? = some fn ∧ lowF P own fn = some (N, lc.strip, rl)
section
variable {P : Program} [m : Mix P] {N base : Nat}
theorem Sat.of {x : LCode} {st : St} {Q : Exit → St → Prop} (h : wp P N base x st Q) : Sat P N base x.strip st Q := wp_spec x st Q h
theorem PFD.of {f : FuncId} {lc : LCode} {rl : List RL} {args vs : List V} (hf : FnOk P f N lc rl) (hN : Nat.ble args.length N = true) (hc : cloL args)
    (h : wp P N 0 lc ⟨argEnv 0 args, [], 0⟩ (RetQ 0 rl vs [] 0)) : PFD P f args (retV vs) := by
  obtain ⟨hent, own, fn, h1, h2⟩ := hf
  exact PFD.enter vs h1 hent h2 (Nat.le_of_ble_eq_true hN) hc (Sat.of h)
def normC : C → C
  | .tru => .d (.v (.bool true))
  | .fls => .d (.v (.bool false))
  | c => c
def normA : V → V
  | .c x => .c (normC x)
  | .agg cs => .agg (cs.map normC)
  | v => v
theorem normC_eq (c : C) : CEq c (normC c) := by cases c <;> first | exact .tru | exact .fls | exact .refl _
theorem normA_eq (v : V) : VEq v (normA v) := by
  cases v with
  | c x => exact .c _ _ (normC_eq x)
  | agg cs =>
    refine .agg _ _ (by simp) (fun i x y hx hy => ?_)
    simp only [List.getElem?_map, hx, Option.map_some, Option.some.injEq] at hy
    subst hy
    exact normC_eq x
  | _ => exact .refl _
theorem ris_norm : ∀ (xs : List V), RIs xs (xs.map normA)
  | [] => .nil
  | x :: xs => .cons (normA_eq x).ri (ris_norm xs)
theorem VEqs.ris : ∀ {xs ys : List V}, VEqs xs ys → RIs xs ys
  | [], [], _ => .nil
  | x :: xs, y :: ys, h => .cons h.1.ri (VEqs.ris h.2)
  | [], _ :: _, h => h.elim
  | _ :: _, [], h => h.elim
/-- Forms of the arguments: as they are (bools known or not). -/
structure Fits (env : List (Nat × V)) (xs : List Operand) (args : List V) : Prop where
  h : RIs (xs.map (evo env)) args
theorem Fits.eq {env : List (Nat × V)} {xs : List Operand} {args : List V} (h : (xs.map (evo env)).map normA = args) : Fits env xs args := ⟨h ▸ ris_norm _⟩
theorem Fits.veq {env : List (Nat × V)} {xs : List Operand} {args : List V} (h : VEqs (xs.map (evo env)) args) : Fits env xs args := ⟨h.ris⟩
theorem Ops.pc {dst : Option Nat} {fop : Operand} {xs : List Operand} {g : Option (Nat × Bool)} {rest : List LIns} {env : List (Nat × V)} {σ : Store} {nx : Nat} {K : St → Prop} {f : FuncId} {args : List V} {v : V} (hf : evo env fop = .c (.fn f [])) (ha : Fits env xs args) (hc : PFD P f args v)
    (hg : guardOf env g = .run) (h : putK dst v env fun env' => wpOps P N base rest env' σ nx none K) : OpsL P N base (⟨dst, .call fop xs, g⟩ :: rest) ⟨env, σ, nx⟩ K := by
  rw [putK_eq] at h
  exact ⟨Ops.pcall (i := ⟨dst, .call fop xs, g⟩) (st := ⟨env, σ, nx⟩) hg rfl hf ha.h hc (Ops.wp h)⟩
theorem OpsD.pc {M : List Nat} {acc : List (Bool × List Nat)} {dst : Option Nat} {fop : Operand} {xs : List Operand} {g : Option (Nat × Bool)} {rest : List LIns} {env : List (Nat × V)} {σ : Store} {nx : Nat} {K : St → Prop} {f : FuncId} {args : List V} {v : V} (hf : evo env fop = .c (.fn f [])) (ha : Fits env xs args) (hc : PFD P f args v)
    (hg : guardOf env g = .run) (h : putK dst v env fun env' => wpD P N base M rest env' σ nx none ((false, []) :: acc) K) : OpsDL P N base M (⟨dst, .call fop xs, g⟩ :: rest) ⟨env, σ, nx⟩ acc K := by
  rw [putK_eq] at h
  exact ⟨OpsD.pcall (k := 0) (ks := []) (i := ⟨dst, .call fop xs, g⟩) (st := ⟨env, σ, nx⟩) hg rfl hf ha.h hc (OpsD.wp h)⟩
theorem Ops.pcR {dst : Option Nat} {fop : Operand} {xs : List Operand} {g : Option (Nat × Bool)} {rest : List LIns} {env : List (Nat × V)} {σ : Store} {nx : Nat} {K : St → Prop} {f : FuncId} {rows : List (List D)} {args : List V} {v : V} (hf : evo env fop = .c (.fnR f rows)) (ha : RIs (xs.map (evo env) ++ rows.map fun r => .c (.rp r)) args) (hc : PFD P f args v)
    (hg : guardOf env g = .run) (h : putK dst v env fun env' => wpOps P N base rest env' σ nx none K) : OpsL P N base (⟨dst, .call fop xs, g⟩ :: rest) ⟨env, σ, nx⟩ K := by
  rw [putK_eq] at h
  exact ⟨Ops.pcallR (i := ⟨dst, .call fop xs, g⟩) (st := ⟨env, σ, nx⟩) hg rfl hf ha hc (Ops.wp h)⟩
theorem OpsD.pcR {M : List Nat} {acc : List (Bool × List Nat)} {dst : Option Nat} {fop : Operand} {xs : List Operand} {g : Option (Nat × Bool)} {rest : List LIns} {env : List (Nat × V)} {σ : Store} {nx : Nat} {K : St → Prop} {f : FuncId} {rows : List (List D)} {args : List V} {v : V} (hf : evo env fop = .c (.fnR f rows)) (ha : RIs (xs.map (evo env) ++ rows.map fun r => .c (.rp r)) args) (hc : PFD P f args v)
    (hg : guardOf env g = .run) (h : putK dst v env fun env' => wpD P N base M rest env' σ nx none ((false, []) :: acc) K) : OpsDL P N base M (⟨dst, .call fop xs, g⟩ :: rest) ⟨env, σ, nx⟩ acc K := by
  rw [putK_eq] at h
  exact ⟨OpsD.pcallR (k := 0) (ks := []) (i := ⟨dst, .call fop xs, g⟩) (st := ⟨env, σ, nx⟩) hg rfl hf ha hc (OpsD.wp h)⟩
theorem OpsL.same {ops : List LIns} {st : St} {K : St → Prop} (h : OpsL P N base ops st K) : OpsL P N base ops st K := h
theorem OpsDL.same {M : List Nat} {ops : List LIns} {st : St} {acc : List (Bool × List Nat)} {K : St → Prop} (h : OpsDL P N base M ops st acc K) : OpsDL P N base M ops st acc K := h
theorem Fork.same {b : Bool} {p q : Prop} (h : Fork b p q) : Fork b p q := h
/-- A value, forced. -/
def frV (v : V) (k : V → Prop) : Prop :=
  match v with
  | .c x => k (.c x)
  | .agg cs => k (.agg cs)
  | .tup vs => k (.tup vs)
  | .unk => k .unk
theorem frV_eq (v : V) (k : V → Prop) : frV v k = k v := by cases v <;> rfl
def argK : Nat → List V → (List (Nat × V) → Prop) → Prop
  | _, [], k => k []
  | n, v :: vs, k => frV v fun v => frNat (n + 1) fun n' => argK n' vs fun e => k ((n, v) :: e)
theorem argK_eq : ∀ (vs : List V) (n : Nat) (k : List (Nat × V) → Prop), argK n vs k = k (argEnv n vs)
  | [], n, k => rfl
  | v :: vs, n, k => by simp only [argK, frV_eq, frNat_eq, argK_eq vs, argEnv]
def callQ (rl : List RL) (R : V → Store → Nat → Prop) : Exit → St → Prop
  | .normal, st => match resAll st.env st.σ rl with
    | some vs => R (retV vs) st.σ st.nx
    | none => False
  | .ret, st => match resAll st.env st.σ rl with
    | some vs => R (retV vs) st.σ st.nx
    | none => False
  | _, _ => False
theorem CallS.of {f : FuncId} {lc : LCode} {rl : List RL} {args : List V} {σ : Store} {nx : Nat} {R : V → Store → Nat → Prop} (hf : FnOk P f N lc rl) (hN : Nat.ble args.length N = true)
    (h : argK 0 args fun env => wp P N nx lc ⟨env, σ, nx⟩ (callQ rl R)) : CallS P f args σ nx R := by
  rw [argK_eq] at h
  obtain ⟨hent, own, fn, h1, h2⟩ := hf
  refine CallS.enter h1 hent h2 (Nat.le_of_ble_eq_true hN) ((Sat.of h).mono fun e st h => ?_)
  unfold callQ at h
  split at h
  · split at h
    · rename_i vs hv; exact ⟨.inl rfl, vs, hv, h⟩
    · exact h.elim
  · split at h
    · rename_i vs hv; exact ⟨.inr rfl, vs, hv, h⟩
    · exact h.elim
  · exact h.elim
theorem Ops.cs {dst : Option Nat} {fop : Operand} {xs : List Operand} {g : Option (Nat × Bool)} {rest : List LIns} {env : List (Nat × V)} {σ : Store} {nx : Nat} {K : St → Prop} {f : FuncId} {ids : List Nat} (hf : evo env fop = .c (.fn f ids)) (hg : guardOf env g = .run)
    (h : CallS P f (xs.map (evo env) ++ ids.map fun k => .c (.bp k 0)) σ nx fun v σ' nx' => frV v fun v => frNat nx' fun nx' => putK dst v env fun env' => wpOps P N base rest env' σ' nx' none K) : OpsL P N base (⟨dst, .call fop xs, g⟩ :: rest) ⟨env, σ, nx⟩ K := by
  refine ⟨?_⟩
  refine Ops.callS (i := ⟨dst, .call fop xs, g⟩) (st := ⟨env, σ, nx⟩) hg rfl hf ?_
  simp only [frV_eq, frNat_eq, putK_eq] at h
  exact ⟨h.1, fun Γ w us h1 h2 h3 => (h.2 Γ w us h1 h2 h3).mono fun e w' ⟨u, v, Γ', σ', nx', q1, q2, q3⟩ => ⟨u, v, Γ', σ', nx', q1, Ops.wp q2, q3⟩⟩
structure Again0 {ι : Type} (inv : ι → List (Nat × V)) (pre : ι → Prop) (μ : ι → Nat) (i : ι) (st : St) : Prop where
  h : ∃ j, pre j ∧ μ j < μ i ∧ envIs st.env (inv j)
def lpQ0 {ι : Type} (inv : ι → List (Nat × V)) (pre : ι → Prop) (μ : ι → Nat) (i : ι) (Q : Exit → St → Prop) : Exit → St → Prop
  | .normal, st => Again0 inv pre μ i st
  | e, st => Q e st
structure Again {ι : Type} (base : Nat) (inv : ι → St) (pre : ι → Prop) (μ : ι → Nat) (i : ι) (st : St) : Prop where
  h : ∃ j π, pre j ∧ μ j < μ i ∧ Wk base st (inv j) π
def lpQ {ι : Type} (base : Nat) (inv : ι → St) (pre : ι → Prop) (μ : ι → Nat) (i : ι) (Q : Exit → St → Prop) : Exit → St → Prop
  | .normal, st => Again base inv pre μ i st
  | e, st => Q e st
theorem Sat.lp0 {x : LCode} {st : St} {Q : Exit → St → Prop} {ι : Type} (inv : ι → List (Nat × V)) (pre : ι → Prop) (μ : ι → Nat) (i0 : ι) (h0 : pre i0) (hw : envIs st.env (inv i0))
    (round : ∀ i, pre i → wp P N base x ⟨inv i, [], base⟩ (lpQ0 inv pre μ i Q)) : SatL P N base (.loop x) st Q :=
  ⟨Sat.loop0 inv pre μ i0 h0 hw fun i hi => (Sat.of (round i hi)).mono fun e st h => by
    cases e with
    | normal => exact h.h
    | _ => exact h⟩
/-- Actual names for the head's names from base on. -/
def nmAt (base : Nat) (l : List Nat) (i : Nat) : Nat :=
  match Nat.ble base i with
  | true => l.getD (i - base) i
  | false => i
def distinct : List Nat → Bool
  | [] => true
  | x :: l => !(memN x l) && distinct l
def geAll (base : Nat) : List Nat → Bool
  | [] => true
  | x :: l => Nat.ble base x && geAll base l
def nmOk (base nx0 : Nat) (l : List Nat) : Bool := Nat.ble base nx0 && Nat.ble nx0 (base + l.length) && distinct l && geAll base l
theorem distinct_inj : ∀ {l : List Nat}, distinct l = true → ∀ (i j x : Nat), l[i]? = some x → l[j]? = some x → i = j
  | [], _, i, j, x, h, _ => by simp at h
  | y :: l, hd, i, j, x, hi, hj => by
    simp only [distinct, Bool.and_eq_true, Bool.not_eq_true'] at hd
    have hn : y ∉ l := fun h => by rw [memN_iff.2 h] at hd; cases hd.1
    cases i with
    | zero =>
      cases j with
      | zero => rfl
      | succ j =>
        simp only [List.getElem?_cons_zero, Option.some.injEq] at hi
        subst hi
        exact absurd (List.mem_of_getElem? (by simpa using hj)) hn
    | succ i =>
      cases j with
      | zero =>
        simp only [List.getElem?_cons_zero, Option.some.injEq] at hj
        subst hj
        exact absurd (List.mem_of_getElem? (by simpa using hi)) hn
      | succ j => rw [distinct_inj hd.2 i j x (by simpa using hi) (by simpa using hj)]
theorem geAll_get : ∀ {base : Nat} {l : List Nat}, geAll base l = true → ∀ x ∈ l, base ≤ x
  | _, [], _, x, h => by cases h
  | base, y :: l, hd, x, h => by
    simp only [geAll, Bool.and_eq_true] at hd
    rcases List.mem_cons.1 h with rfl | h
    · exact Nat.le_of_ble_eq_true hd.1
    · exact geAll_get hd.2 x h
theorem nmAt_lo {l : List Nat} {i : Nat} (h : i < base) : nmAt base l i = i := by
  unfold nmAt
  split
  · rename_i hb; have := Nat.le_of_ble_eq_true hb; omega
  · rfl
theorem nmAt_hi {l : List Nat} {i : Nat} (h : base ≤ i) : nmAt base l i = l.getD (i - base) i := by
  unfold nmAt
  split
  · rfl
  · rename_i hb; rw [Nat.ble_eq_true_of_le h] at hb; cases hb
def cLtB (n : Nat) : C → Bool
  | .fn _ ids => ltAll n ids
  | .bp id _ => Nat.blt id n
  | .ep id _ _ _ => Nat.blt id n
  | .ms id _ => Nat.blt id n
  | .yd id => Nat.blt id n
  | .mp id => Nat.blt id n
  | .sb id _ => Nat.blt id n
  | _ => true
  where ltAll (n : Nat) : List Nat → Bool
  | [] => true
  | i :: is => Nat.blt i n && ltAll n is
def csLtB (n : Nat) : List C → Bool
  | [] => true
  | c :: cs => cLtB n c && csLtB n cs
def vLtB (n : Nat) : V → Bool
  | .c x => cLtB n x
  | .agg cs => csLtB n cs
  | .tup _ => false
  | .unk => true
def envLtB (n : Nat) : List (Nat × V) → Bool
  | [] => true
  | (_, v) :: e => vLtB n v && envLtB n e
def eLtB (n : Nat) : Ent → Bool
  | .box cs => csLtB n cs
  | .row .. => true
  | .lp env _ _ _ => envLtB n env
  | .mp .. => true
def stoLtB (n : Nat) : Store → Bool
  | [] => true
  | (i, e) :: σ => Nat.blt i n && eLtB n e && stoLtB n σ
theorem blt_iff {a b : Nat} : Nat.blt a b = true ↔ a < b := by simp [Nat.blt_eq]
theorem ltAll_sound {n : Nat} : ∀ {l : List Nat}, cLtB.ltAll n l = true → ∀ i ∈ l, i < n
  | [], _, i, h => by cases h
  | x :: l, h, i, hi => by
    simp only [cLtB.ltAll, Bool.and_eq_true] at h
    rcases List.mem_cons.1 hi with rfl | hi
    · exact blt_iff.1 h.1
    · exact ltAll_sound h.2 i hi
theorem cLtB_sound {n : Nat} {c : C} (h : cLtB n c = true) : cLt n c := by
  cases c with
  | fn f ids => exact fun i hi => ltAll_sound h i hi
  | bp | ep | ms | yd | mp | sb => exact blt_iff.1 h
  | _ => trivial
theorem csLtB_sound {n : Nat} : ∀ {cs : List C}, csLtB n cs = true → csLt n cs
  | [], _ => trivial
  | c :: cs, h => by simp only [csLtB, Bool.and_eq_true] at h; exact ⟨cLtB_sound h.1, csLtB_sound h.2⟩
theorem vLtB_sound {n : Nat} {v : V} (h : vLtB n v = true) : vLt n v := by
  cases v with
  | c x => exact cLtB_sound h
  | agg cs => exact csLtB_sound h
  | tup => cases h
  | unk => trivial
theorem envLtB_sound {n : Nat} : ∀ {e : List (Nat × V)}, envLtB n e = true → envLt n e
  | [], _ => trivial
  | (_, v) :: e, h => by simp only [envLtB, Bool.and_eq_true] at h; exact ⟨vLtB_sound h.1, envLtB_sound h.2⟩
theorem eLtB_sound {n : Nat} {e : Ent} (h : eLtB n e = true) : eLt n e := by
  cases e with
  | box cs => exact csLtB_sound h
  | row => trivial
  | lp => exact envLtB_sound h
  | mp => trivial
/-- The slots and the entries of a head: what is, is what the head says (renamed). -/
def envEq (π : Nat → Nat) (env : List (Nat × V)) : List (Nat × V) → Prop
  | [] => True
  | (t, v) :: e0 => VEq (lk env t) (rnV π v) ∧ envEq π env e0
def stoEq (π : Nat → Nat) (σ : Store) : Store → Prop
  | [] => True
  | (id, x) :: σ0 => (match get σ (π id) with | some y => EEq y (rnE π x) | none => False) ∧ stoEq π σ σ0
theorem envEq.ok {n : Nat} {π : Nat → Nat} {env : List (Nat × V)} : ∀ {e0 : List (Nat × V)}, envLtB n e0 = true → envEq π env e0 → envOk n π env e0
  | [], _, _ => trivial
  | (t, v) :: e0, hl, h => by
    simp only [envLtB, Bool.and_eq_true] at hl
    exact ⟨⟨h.1, vLtB_sound hl.1⟩, envEq.ok hl.2 h.2⟩
theorem stoEq.ok {n : Nat} {π : Nat → Nat} {σ : Store} : ∀ {σ0 : Store}, stoLtB n σ0 = true → stoEq π σ σ0 → stoOk n π σ σ0
  | [], _, _ => stoOk.nil
  | (id, x) :: σ0, hl, h => by
    simp only [stoLtB, Bool.and_eq_true] at hl
    refine stoOk.cons (blt_iff.1 hl.1.1) (eLtB_sound hl.1.2) ?_ (stoEq.ok hl.2 h.2)
    have := h.1
    split at this
    · rename_i y hy; exact ⟨y, hy, this⟩
    · exact this.elim
/-- A state is a head's, under these names. -/
structure Is (base : Nat) (st st0 : St) (l : List Nat) : Prop where
  nm : (nmOk base st0.nx l && envLtB st0.nx st0.env && stoLtB st0.nx st0.σ) = true
  env : envEq (nmAt base l) st.env st0.env
  sto : stoEq (nmAt base l) st.σ st0.σ
theorem Is.wk {st st0 : St} {l : List Nat} (h : Is base st st0 l) : Wk base st st0 (nmAt base l) := by
  have h1 := h.nm
  simp only [nmOk, Bool.and_eq_true] at h1
  obtain ⟨⟨⟨⟨⟨a1, a2⟩, a3⟩, a4⟩, a5⟩, a6⟩ := h1
  have a1 := Nat.le_of_ble_eq_true a1
  have a2 := Nat.le_of_ble_eq_true a2
  have hget : ∀ i, base ≤ i → i < st0.nx → ∃ x, l[i - base]? = some x ∧ nmAt base l i = x ∧ base ≤ x := fun i h1 h2 => by
    have hlt : i - base < l.length := by omega
    refine ⟨l[i - base], by simp [hlt], ?_, geAll_get a4 _ (List.getElem_mem hlt)⟩
    rw [nmAt_hi h1, List.getD_eq_getElem?_getD, List.getElem?_eq_getElem hlt]; rfl
  refine ⟨fun i hi => nmAt_lo hi, fun i j hi hj he => ?_, a1, h.env.ok a5, h.sto.ok a6⟩
  rcases Nat.lt_or_ge i base with h1 | h1 <;> rcases Nat.lt_or_ge j base with h2 | h2
  · rw [nmAt_lo h1, nmAt_lo h2] at he; exact he
  · obtain ⟨x, _, hx, hx'⟩ := hget j h2 hj
    rw [nmAt_lo h1, hx] at he; omega
  · obtain ⟨x, _, hx, hx'⟩ := hget i h1 hi
    rw [nmAt_lo h2, hx] at he; omega
  · obtain ⟨x, hx, hx', _⟩ := hget i h1 hi
    obtain ⟨y, hy, hy', _⟩ := hget j h2 hj
    rw [hx', hy'] at he
    subst he
    have := distinct_inj a3 _ _ _ hx hy
    omega
/-- A loop whose head holds names. -/
theorem Sat.lp {x : LCode} {st : St} {Q : Exit → St → Prop} {ι : Type} (inv : ι → St) (pre : ι → Prop) (μ : ι → Nat) (i0 : ι) (l : List Nat) (h0 : pre i0) (hw : Is base st (inv i0) l)
    (round : ∀ i, pre i → wp P N base x (inv i) (lpQ base inv pre μ i Q)) : SatL P N base (.loop x) st Q :=
  ⟨Sat.loop inv pre μ i0 _ h0 hw.wk fun i hi => (Sat.of (round i hi)).mono fun e st h => by
    cases e with
    | normal => exact h.h
    | _ => exact h⟩
theorem again {ι : Type} {inv : ι → St} {pre : ι → Prop} {μ : ι → Nat} {i : ι} {st : St} (j : ι) (l : List Nat) (h : pre j) (hm : μ j < μ i) (hw : Is base st (inv j) l) : Again base inv pre μ i st :=
  ⟨j, _, h, hm, hw.wk⟩
theorem again0 {ι : Type} {inv : ι → List (Nat × V)} {pre : ι → Prop} {μ : ι → Nat} {i : ι} {st : St} (j : ι) (h : pre j) (hm : μ j < μ i) (hw : envIs st.env (inv j)) : Again0 inv pre μ i st :=
  ⟨j, h, hm, hw⟩
/-- What a round comes to. -/
def yieldQ (id : Nat) (R : Loop → Prop) (next : V → Store → Nat → Prop) : Exit → St → Prop
  | .normal, st => ∃ env2 s2 j2, get st.σ id = some (.lp env2 s2 j2 R) ∧ frS (set st.σ id (.lp env2 .ready none R)) fun σ => next (.c .tru) σ st.nx
  | .ret, st => ∃ env2 s2 j2, get st.σ id = some (.lp env2 s2 j2 R) ∧ frS (set st.σ id (.lp env2 .done (some .ret) R)) fun σ => next (.c .fls) σ st.nx
  | .exit k, st => ∃ env2 s2 j2, get st.σ id = some (.lp env2 s2 j2 R) ∧ frS (set st.σ id (.lp env2 .done (some (.exit k)) R)) fun σ => next (.c .fls) σ st.nx
  | _, _ => False
def bindK : List Nat → List V → List (Nat × V) → (List (Nat × V) → Prop) → Prop
  | p :: ps, v :: vs, env, k => frV v fun v => bindK ps vs ((p, v) :: env) k
  | _, _, env, k => k env
theorem bindK_eq : ∀ (ps : List Nat) (vs : List V) (env : List (Nat × V)) (k : List (Nat × V) → Prop), bindK ps vs env k = k (bindE ps vs env)
  | [], vs, env, k => by simp [bindK, bindE]
  | p :: ps, [], env, k => by simp [bindK, bindE]
  | p :: ps, v :: vs, env, k => by simp only [bindK, frV_eq, bindK_eq ps vs, bindE]
theorem Ops.yd {id N' : Nat} {dst : Option Nat} {fop : Operand} {xs : List Operand} {g : Option (Nat × Bool)} {rest : List LIns} {env : List (Nat × V)} {σ : Store} {nx : Nat} {K : St → Prop} {env0 : List (Nat × V)} {ps : List Nat} {la lb : LCode} (hf : evo env fop = .c (.yd id)) (hg : guardOf env g = .run)
    (hlp : get σ id = some (.lp env0 .ready none (RR P N' ps la lb))) (hlen : Nat.beq ps.length xs.length = true) (hr : (la.ranges || lb.ranges) = false)
    (h : bindK ps (xs.map (evo env)) env0 fun e => Pw.wp P N' nx la ⟨e, σ, nx⟩ fun e st1 => e = .normal ∧ ∃ env1, get st1.σ id = some (.lp env1 .ready none (RR P N' ps la lb)) ∧
      frS (set st1.σ id (.lp env1 .busy none (RR P N' ps la lb))) fun σ' => frNat st1.nx fun nx1 => Pw.wp P N' nx lb ⟨st1.env, σ', nx1⟩ (yieldQ id (RR P N' ps la lb) fun v σ' nx' => frNat nx' fun nx' => putK dst v env fun env' => wpOps P N base rest env' σ' nx' none K)) (hsa : la.strip = la := by exact rfl) (hsb : lb.strip = lb := by exact rfl) :
    OpsL P N base (⟨dst, .call fop xs, g⟩ :: rest) ⟨env, σ, nx⟩ K := by
  rw [bindK_eq] at h
  refine ⟨?_⟩
  simp only [Bool.or_eq_false_iff] at hr
  refine Ops.yield (i := ⟨dst, .call fop xs, g⟩) (st := ⟨env, σ, nx⟩) hg rfl hf hlp (Nat.eq_of_beq_eq_true hlen) hr.1 hr.2 ((hsa ▸ Sat.of h : Sat P N' nx la _ _).mono fun e st1 ⟨he, env1, h1, h2⟩ => ⟨he, env1, h1, ?_⟩)
  rw [frS_eq, frNat_eq] at h2
  refine (hsb ▸ Sat.of h2 : Sat P N' nx lb _ _).mono fun e st2 h3 => ?_
  cases e with
  | normal =>
    obtain ⟨env2, s2, j2, hg2, h4⟩ := h3
    simp only [frNat_eq, putK_eq, frS_eq] at h4
    exact ⟨env2, s2, j2, hg2, Ops.wp h4⟩
  | ret =>
    obtain ⟨env2, s2, j2, hg2, h4⟩ := h3
    simp only [frNat_eq, putK_eq, frS_eq] at h4
    exact ⟨env2, s2, j2, hg2, Ops.wp h4⟩
  | exit k =>
    obtain ⟨env2, s2, j2, hg2, h4⟩ := h3
    simp only [frNat_eq, putK_eq, frS_eq] at h4
    exact ⟨env2, s2, j2, hg2, Ops.wp h4⟩
  | _ => exact h3.elim
end
end Go.Pw

set_option linter.unusedVariables false
namespace Go.Pw
open Go Go.RowKit
abbrev dI (n : Int) : D := .v (.int .i64 n)
abbrev int (n : Int) : C := .d (.v (.int .i64 n))
abbrev r1 (n : Int) : List D := [dI n]
abbrev r2 (p : Int × Int) : List D := [dI p.1, dI p.2]
abbrev r3 (p : Int × Int × Int) : List D := [dI p.1, dI p.2.1, dI p.2.2]
abbrev slv {α : Type} (s : Nat) (row : α → List D) (d : α) (l : List α) : C := .d (.sl s l.length fun i => row (l.getD i d))
abbrev ints (l : List Int) : C := slv 1 r1 0 l
abbrev prs (l : List (Int × Int)) : C := slv 2 r2 (0, 0) l
abbrev trs (l : List (Int × Int × Int)) : C := slv 3 r3 (0, 0, 0) l
/-- A row that is owned, and holds a list. -/
abbrev rowv {α : Type} (e : TypeId) (s : Nat) (row : α → List D) (d : α) (l : List α) : Ent := .row e s l.length (fun i => row (l.getD i d)) false
theorem VEq.ms {id n m : Nat} (h : n = m) : VEq (.c (.ms id n)) (.c (.ms id m)) := by subst h; exact .refl _
theorem CEq.ms {id n m : Nat} (h : n = m) : CEq (.ms id n) (.ms id m) := by subst h; exact .refl _
theorem CEq.int {k : IntKind} {a b : Int} (h : a = b) : CEq (.d (.v (.int k a))) (.d (.v (.int k b))) := by subst h; exact .refl _
theorem CEq.sl {s n m : Nat} {f g : Nat → List D} (hn : n = m) (h : ∀ i, i < n → f i = g i) : CEq (.d (.sl s n f)) (.d (.sl s m g)) := by subst hn; exact .d _ _ (.sl _ _ _ _ h)
theorem CEq.nil {s : Nat} {g : Nat → List D} : CEq (.d (.v (.slice none 0 0))) (.d (.sl s 0 g)) := .d _ _ (.nil s g)
theorem VEq.nil {s : Nat} {g : Nat → List D} : VEq (.c (.d (.v (.slice none 0 0)))) (.c (.d (.sl s 0 g))) := .c _ _ .nil
/-- The same list. -/
theorem VEq.sll {α : Type} {s : Nat} {row : α → List D} {d : α} {l m : List α} (h : l = m) : VEq (.c (slv s row d l)) (.c (slv s row d m)) := by subst h; exact .refl _
theorem CEq.sll {α : Type} {s : Nat} {row : α → List D} {d : α} {l m : List α} (h : l = m) : CEq (slv s row d l) (slv s row d m) := by subst h; exact .refl _
def CEqs : List C → List C → Prop
  | [], [] => True
  | x :: xs, y :: ys => CEq x y ∧ CEqs xs ys
  | _, _ => False
theorem CEqs.length : ∀ {xs ys : List C}, CEqs xs ys → xs.length = ys.length
  | [], [], _ => rfl
  | x :: xs, y :: ys, h => by simp [CEqs.length h.2]
  | [], _ :: _, h => h.elim
  | _ :: _, [], h => h.elim
theorem CEqs.get : ∀ {xs ys : List C}, CEqs xs ys → ∀ (i : Nat) x y, xs[i]? = some x → ys[i]? = some y → CEq x y
  | [], [], _, i, x, y, h, _ => by simp at h
  | a :: xs, b :: ys, h, i, x, y, hx, hy => by
    cases i with
    | zero => simp at hx hy; subst hx; subst hy; exact h.1
    | succ i => exact CEqs.get h.2 i x y (by simpa using hx) (by simpa using hy)
  | [], _ :: _, h, _, _, _, _, _ => h.elim
  | _ :: _, [], h, _, _, _, _, _ => h.elim
theorem EEq.boxs {xs ys : List C} (h : CEqs xs ys) : EEq (.box xs) (.box ys) := .box xs ys h.length h.get
theorem VEq.aggs {xs ys : List C} (h : CEqs xs ys) : VEq (.agg xs) (.agg ys) := .agg xs ys h.length h.get
theorem EEq.same (x : Ent) : EEq x x := by
  cases x with
  | box xs => exact .box _ _ rfl fun i x y hx hy => by rw [hx] at hy; cases hy; exact .refl _
  | row => exact .row _ _ _ _ _ _ fun _ _ => rfl
  | lp => exact .lp _ _ _ _ _ fun _ => .refl _
  | mp m es => exact .mp m es
theorem EEq.rowl {e : TypeId} {s n m : Nat} {f g : Nat → List D} {fz : Bool} (hn : n = m) (h : ∀ i, i < n → f i = g i) : EEq (.row e s n f fz) (.row e s m g fz) := by subst hn; exact .row _ _ _ _ _ _ h
/-- One element more. -/
theorem row_app {α : Type} {row : α → List D} {d : α} {l : List α} {x : α} {r : List D} (h : r = row x) (i : Nat) (hi : i < l.length + 1) : (if i < l.length then row (l.getD i d) else ([r].getD (i - l.length) [])) = row ((l ++ [x]).getD i d) := by
  subst h
  by_cases hlt : i < l.length
  · rw [if_pos hlt, List.getD_eq_getElem?_getD, List.getD_eq_getElem?_getD, List.getElem?_append_left hlt]
  · have : i = l.length := by omega
    subst this
    simp
theorem EEq.app {α : Type} {e : TypeId} {s : Nat} {row : α → List D} {d : α} {l l' : List α} (x : α) {r : List D} (h : r = row x) (hl : l' = l ++ [x]) : EEq (.row e s (l.length + 1) (fun i => if i < l.length then row (l.getD i d) else ([r].getD (i - l.length) [])) false) (rowv e s row d l') := by
  subst hl
  exact EEq.rowl (by simp) fun i hi => row_app h i hi
theorem EEq.one {α : Type} {e : TypeId} {s : Nat} {row : α → List D} {d : α} {l' : List α} (x : α) {r : List D} (h : r = row x) (hl : l' = [x]) : EEq (.row e s 1 (fun i => [r].getD i []) false) (rowv e s row d l') := by
  subst hl
  subst h
  exact EEq.rowl rfl fun i hi => by
    have : i = 0 := by omega
    subst this; rfl
theorem EEq.app1 {e : TypeId} {l l' : List Int} {a : Int} (hl : l' = l ++ [a]) : EEq (.row e 1 (l.length + 1) (fun i => if i < l.length then r1 (l.getD i 0) else ([[dI a]].getD (i - l.length) [])) false) (rowv e 1 r1 0 l') := EEq.app a rfl hl
theorem EEq.app2 {e : TypeId} {l l' : List (Int × Int)} {a b : Int} (hl : l' = l ++ [(a, b)]) : EEq (.row e 2 (l.length + 1) (fun i => if i < l.length then r2 (l.getD i (0, 0)) else ([[dI a, dI b]].getD (i - l.length) [])) false) (rowv e 2 r2 (0, 0) l') := EEq.app (a, b) rfl hl
theorem EEq.app3 {e : TypeId} {l l' : List (Int × Int × Int)} {a b c : Int} (hl : l' = l ++ [(a, b, c)]) : EEq (.row e 3 (l.length + 1) (fun i => if i < l.length then r3 (l.getD i (0, 0, 0)) else ([[dI a, dI b, dI c]].getD (i - l.length) [])) false) (rowv e 3 r3 (0, 0, 0) l') := EEq.app (a, b, c) rfl hl
theorem CEq.li_1 {a0 : Int} : CEq (.d (.sl 1 [[dI a0]].length fun i => [[dI a0]].getD i [])) (ints [a0]) := CEq.sl rfl (fun i hi => by
  rcases i with _ | i
  · rfl
  exact absurd hi (by simp only [List.length_cons, List.length_nil]; omega))
theorem VEq.li_1 {a0 : Int} : VEq (.c (.d (.sl 1 [[dI a0]].length fun i => [[dI a0]].getD i []))) (.c (ints [a0])) := .c _ _ CEq.li_1
theorem CEq.li_2 {a0 a1 : Int} : CEq (.d (.sl 1 [[dI a0], [dI a1]].length fun i => [[dI a0], [dI a1]].getD i [])) (ints [a0, a1]) := CEq.sl rfl (fun i hi => by
  rcases i with _ | i
  · rfl
  rcases i with _ | i
  · rfl
  exact absurd hi (by simp only [List.length_cons, List.length_nil]; omega))
theorem VEq.li_2 {a0 a1 : Int} : VEq (.c (.d (.sl 1 [[dI a0], [dI a1]].length fun i => [[dI a0], [dI a1]].getD i []))) (.c (ints [a0, a1])) := .c _ _ CEq.li_2
theorem CEq.li_3 {a0 a1 a2 : Int} : CEq (.d (.sl 1 [[dI a0], [dI a1], [dI a2]].length fun i => [[dI a0], [dI a1], [dI a2]].getD i [])) (ints [a0, a1, a2]) := CEq.sl rfl (fun i hi => by
  rcases i with _ | i
  · rfl
  rcases i with _ | i
  · rfl
  rcases i with _ | i
  · rfl
  exact absurd hi (by simp only [List.length_cons, List.length_nil]; omega))
theorem VEq.li_3 {a0 a1 a2 : Int} : VEq (.c (.d (.sl 1 [[dI a0], [dI a1], [dI a2]].length fun i => [[dI a0], [dI a1], [dI a2]].getD i []))) (.c (ints [a0, a1, a2])) := .c _ _ CEq.li_3
theorem CEq.li_4 {a0 a1 a2 a3 : Int} : CEq (.d (.sl 1 [[dI a0], [dI a1], [dI a2], [dI a3]].length fun i => [[dI a0], [dI a1], [dI a2], [dI a3]].getD i [])) (ints [a0, a1, a2, a3]) := CEq.sl rfl (fun i hi => by
  rcases i with _ | i
  · rfl
  rcases i with _ | i
  · rfl
  rcases i with _ | i
  · rfl
  rcases i with _ | i
  · rfl
  exact absurd hi (by simp only [List.length_cons, List.length_nil]; omega))
theorem VEq.li_4 {a0 a1 a2 a3 : Int} : VEq (.c (.d (.sl 1 [[dI a0], [dI a1], [dI a2], [dI a3]].length fun i => [[dI a0], [dI a1], [dI a2], [dI a3]].getD i []))) (.c (ints [a0, a1, a2, a3])) := .c _ _ CEq.li_4
theorem CEq.lp_1 {a0 b0 : Int} : CEq (.d (.sl 2 [[dI a0, dI b0]].length fun i => [[dI a0, dI b0]].getD i [])) (prs [(a0, b0)]) := CEq.sl rfl (fun i hi => by
  rcases i with _ | i
  · rfl
  exact absurd hi (by simp only [List.length_cons, List.length_nil]; omega))
theorem VEq.lp_1 {a0 b0 : Int} : VEq (.c (.d (.sl 2 [[dI a0, dI b0]].length fun i => [[dI a0, dI b0]].getD i []))) (.c (prs [(a0, b0)])) := .c _ _ CEq.lp_1
theorem CEq.lp_2 {a0 b0 a1 b1 : Int} : CEq (.d (.sl 2 [[dI a0, dI b0], [dI a1, dI b1]].length fun i => [[dI a0, dI b0], [dI a1, dI b1]].getD i [])) (prs [(a0, b0), (a1, b1)]) := CEq.sl rfl (fun i hi => by
  rcases i with _ | i
  · rfl
  rcases i with _ | i
  · rfl
  exact absurd hi (by simp only [List.length_cons, List.length_nil]; omega))
theorem VEq.lp_2 {a0 b0 a1 b1 : Int} : VEq (.c (.d (.sl 2 [[dI a0, dI b0], [dI a1, dI b1]].length fun i => [[dI a0, dI b0], [dI a1, dI b1]].getD i []))) (.c (prs [(a0, b0), (a1, b1)])) := .c _ _ CEq.lp_2
theorem CEq.lp_3 {a0 b0 a1 b1 a2 b2 : Int} : CEq (.d (.sl 2 [[dI a0, dI b0], [dI a1, dI b1], [dI a2, dI b2]].length fun i => [[dI a0, dI b0], [dI a1, dI b1], [dI a2, dI b2]].getD i [])) (prs [(a0, b0), (a1, b1), (a2, b2)]) := CEq.sl rfl (fun i hi => by
  rcases i with _ | i
  · rfl
  rcases i with _ | i
  · rfl
  rcases i with _ | i
  · rfl
  exact absurd hi (by simp only [List.length_cons, List.length_nil]; omega))
theorem VEq.lp_3 {a0 b0 a1 b1 a2 b2 : Int} : VEq (.c (.d (.sl 2 [[dI a0, dI b0], [dI a1, dI b1], [dI a2, dI b2]].length fun i => [[dI a0, dI b0], [dI a1, dI b1], [dI a2, dI b2]].getD i []))) (.c (prs [(a0, b0), (a1, b1), (a2, b2)])) := .c _ _ CEq.lp_3
theorem CEq.lp_4 {a0 b0 a1 b1 a2 b2 a3 b3 : Int} : CEq (.d (.sl 2 [[dI a0, dI b0], [dI a1, dI b1], [dI a2, dI b2], [dI a3, dI b3]].length fun i => [[dI a0, dI b0], [dI a1, dI b1], [dI a2, dI b2], [dI a3, dI b3]].getD i [])) (prs [(a0, b0), (a1, b1), (a2, b2), (a3, b3)]) := CEq.sl rfl (fun i hi => by
  rcases i with _ | i
  · rfl
  rcases i with _ | i
  · rfl
  rcases i with _ | i
  · rfl
  rcases i with _ | i
  · rfl
  exact absurd hi (by simp only [List.length_cons, List.length_nil]; omega))
theorem VEq.lp_4 {a0 b0 a1 b1 a2 b2 a3 b3 : Int} : VEq (.c (.d (.sl 2 [[dI a0, dI b0], [dI a1, dI b1], [dI a2, dI b2], [dI a3, dI b3]].length fun i => [[dI a0, dI b0], [dI a1, dI b1], [dI a2, dI b2], [dI a3, dI b3]].getD i []))) (.c (prs [(a0, b0), (a1, b1), (a2, b2), (a3, b3)])) := .c _ _ CEq.lp_4
theorem CEq.lt_1 {a0 b0 c0 : Int} : CEq (.d (.sl 3 [[dI a0, dI b0, dI c0]].length fun i => [[dI a0, dI b0, dI c0]].getD i [])) (trs [(a0, b0, c0)]) := CEq.sl rfl (fun i hi => by
  rcases i with _ | i
  · rfl
  exact absurd hi (by simp only [List.length_cons, List.length_nil]; omega))
theorem VEq.lt_1 {a0 b0 c0 : Int} : VEq (.c (.d (.sl 3 [[dI a0, dI b0, dI c0]].length fun i => [[dI a0, dI b0, dI c0]].getD i []))) (.c (trs [(a0, b0, c0)])) := .c _ _ CEq.lt_1
theorem CEq.lt_2 {a0 b0 c0 a1 b1 c1 : Int} : CEq (.d (.sl 3 [[dI a0, dI b0, dI c0], [dI a1, dI b1, dI c1]].length fun i => [[dI a0, dI b0, dI c0], [dI a1, dI b1, dI c1]].getD i [])) (trs [(a0, b0, c0), (a1, b1, c1)]) := CEq.sl rfl (fun i hi => by
  rcases i with _ | i
  · rfl
  rcases i with _ | i
  · rfl
  exact absurd hi (by simp only [List.length_cons, List.length_nil]; omega))
theorem VEq.lt_2 {a0 b0 c0 a1 b1 c1 : Int} : VEq (.c (.d (.sl 3 [[dI a0, dI b0, dI c0], [dI a1, dI b1, dI c1]].length fun i => [[dI a0, dI b0, dI c0], [dI a1, dI b1, dI c1]].getD i []))) (.c (trs [(a0, b0, c0), (a1, b1, c1)])) := .c _ _ CEq.lt_2
theorem CEq.lt_3 {a0 b0 c0 a1 b1 c1 a2 b2 c2 : Int} : CEq (.d (.sl 3 [[dI a0, dI b0, dI c0], [dI a1, dI b1, dI c1], [dI a2, dI b2, dI c2]].length fun i => [[dI a0, dI b0, dI c0], [dI a1, dI b1, dI c1], [dI a2, dI b2, dI c2]].getD i [])) (trs [(a0, b0, c0), (a1, b1, c1), (a2, b2, c2)]) := CEq.sl rfl (fun i hi => by
  rcases i with _ | i
  · rfl
  rcases i with _ | i
  · rfl
  rcases i with _ | i
  · rfl
  exact absurd hi (by simp only [List.length_cons, List.length_nil]; omega))
theorem VEq.lt_3 {a0 b0 c0 a1 b1 c1 a2 b2 c2 : Int} : VEq (.c (.d (.sl 3 [[dI a0, dI b0, dI c0], [dI a1, dI b1, dI c1], [dI a2, dI b2, dI c2]].length fun i => [[dI a0, dI b0, dI c0], [dI a1, dI b1, dI c1], [dI a2, dI b2, dI c2]].getD i []))) (.c (trs [(a0, b0, c0), (a1, b1, c1), (a2, b2, c2)])) := .c _ _ CEq.lt_3
section
variable {P : Program} {N base : Nat}
/-- These slots alone. -/
def keepK : List Nat → List (Nat × V) → (List (Nat × V) → Prop) → Prop
  | [], _, k => k []
  | t :: ts, env, k => frV (lk env t) fun v => keepK ts env fun e => k ((t, v) :: e)
def keepE (env : List (Nat × V)) : List Nat → List (Nat × V)
  | [] => []
  | t :: ts => (t, lk env t) :: keepE env ts
theorem keepK_eq : ∀ (ts : List Nat) (env : List (Nat × V)) (k : List (Nat × V) → Prop), keepK ts env k = k (keepE env ts)
  | [], env, k => rfl
  | t :: ts, env, k => by simp only [keepK, frV_eq, keepK_eq ts, keepE]
theorem lk_keepE {env : List (Nat × V)} {t : Nat} : ∀ (ts : List Nat), RI (lk env t) (lk (keepE env ts) t)
  | [] => fun _ _ _ _ => .unk _
  | x :: ts => by
    rw [keepE, lk_cons]
    split
    · rename_i h; subst h; exact RI.refl _
    · exact lk_keepE ts
theorem Mv.keep {env : List (Nat × V)} {σ : Store} {nx : Nat} (ts : List Nat) : Mv base ⟨env, σ, nx⟩ ⟨keepE env ts, σ, nx⟩ := Mv.env fun t => lk_keepE ts
theorem Sat.keep {x : LCode} {env : List (Nat × V)} {σ : Store} {nx : Nat} {Q : Exit → St → Prop} (ts : List Nat) (h : keepK ts env fun env' => SatL P N base x ⟨env', σ, nx⟩ Q) : SatL P N base x ⟨env, σ, nx⟩ Q := by
  rw [keepK_eq] at h
  exact ⟨Sat.from (Mv.keep ts) h.h⟩
theorem RetQ.of {nx : Nat} {rl : List RL} {vs vs0 : List V} {σ' : Store} {nx' : Nat} {e : Exit} {env : List (Nat × V)} {σ : Store} {nx1 : Nat} (he : e = .normal ∨ e = .ret) (hres : resAll env σ rl = some vs0) (hl : Nat.beq vs0.length vs.length = true) (h : Mv nx ⟨argEnv 0 vs0, σ, nx1⟩ ⟨argEnv 0 vs, σ', nx'⟩) : RetQ nx rl vs σ' nx' e ⟨env, σ, nx1⟩ :=
  ⟨he, vs0, hres, Nat.eq_of_beq_eq_true hl, h⟩
theorem Mv.plain {nx nx1 nx' : Nat} {env : List (Nat × V)} {σ : Store} {vs : List V} (hle : Nat.ble nx nx' = true) (h : envIs env (argEnv 0 vs)) : Mv nx ⟨env, σ, nx1⟩ ⟨argEnv 0 vs, [], nx'⟩ :=
  Mv.weaken (Wk.plain (Nat.le_of_ble_eq_true hle) h)
/-- At a call: the row of slot t is closed. -/
theorem OpsL.frz {ops : List LIns} {K : St → Prop} {env : List (Nat × V)} {σ : Store} {nx : Nat} (t id : Nat) {n : Nat} {e : TypeId} {s m : Nat} {f : Nat → List D} {fz : Bool} (h : lk env t = .c (.ms id n)) (hg : get σ id = some (.row e s m f fz)) (hn : n ≤ m)
    (k : frS (set σ id (.row e s m f true)) fun σ' => OpsL P N base ops ⟨(t, .c (.d (.sl s n f))) :: env, σ', nx⟩ K) : OpsL P N base ops ⟨env, σ, nx⟩ K := by
  rw [frS_eq] at k
  exact ⟨Ops.from (Mv.freeze t id h hg hn) k.h⟩
/-- At the end of a loop: the row of slot t is closed. -/
theorem MvQ.frz {Q : Exit → St → Prop} {x : Exit} {env : List (Nat × V)} {σ : Store} {nx : Nat} (t id : Nat) {n : Nat} {e : TypeId} {s m : Nat} {f : Nat → List D} {fz : Bool} (h : lk env t = .c (.ms id n)) (hg : get σ id = some (.row e s m f fz)) (hn : n ≤ m)
    (k : frS (set σ id (.row e s m f true)) fun σ' => MvQ base Q x ⟨(t, .c (.d (.sl s n f))) :: env, σ', nx⟩) : MvQ base Q x ⟨env, σ, nx⟩ := by
  rw [frS_eq] at k
  exact MvQ.from (Mv.freeze t id h hg hn) k
/-- A nil slice in a slot gets a name. -/
theorem Sat.nilS {x : LCode} {env : List (Nat × V)} {σ : Store} {nx : Nat} {Q : Exit → St → Prop} (t : Nat) (e : TypeId) (s : Nat) (f : Nat → List D) (h : lk env t = .c (.d (.v (.slice none 0 0))))
    (k : frNat (nx + 1) fun nx' => SatL P N base x ⟨(t, .c (.ms nx 0)) :: env, (nx, .row e s 0 f false) :: σ, nx'⟩ Q) : SatL P N base x ⟨env, σ, nx⟩ Q := by
  rw [frNat_eq] at k
  exact ⟨Sat.from (Mv.nilms t e s f h) k.h⟩
end
end Go.Pw

set_option linter.unusedVariables false
set_option linter.unusedSectionVars false
namespace Go.Pw
open Go Go.RowKit Go.ChangeShapes Go.WideShapes
inductive Sh
  | int (k : IntKind)
  | bool
  | str
  | sl (row : List Sh)
/-- Shapes of a struct's fields, laid one behind the other. -/
def shFields (cells : TypeId → Nat) (sh : TypeId → Option (List Sh)) : Nat → List Field → Option (List Sh)
  | _, [] => some []
  | o, f :: fs => if f.offset = o then (sh f.type).bind fun a => if a.length = cells f.type then (shFields cells sh (o + cells f.type) fs).map fun b => a ++ b else none else none
/-- The shape of a type's cells. -/
def shOf (P : Program) : Nat → TypeId → Option (List Sh)
  | 0, _ => none
  | m + 1, t => match P.underlying t with
    | some (.int k) => some [.int k]
    | some .bool => some [.bool]
    | some .string => some [.str]
    | some (.struct fs) => (shFields P.cellsOf (shOf P m) 0 fs.toList).bind fun l => if l.length = P.cellsOf t then some l else none
    | some (.array n e) => (shOf P m e).bind fun a => if a.length = P.cellsOf e ∧ n * P.cellsOf e = P.cellsOf t then some (List.replicate n a).flatten else none
    | some (.slice e) => (shOf P m e).bind fun a => if a.length = P.cellsOf e ∧ a.length ≠ 0 then some [.sl a] else none
    | _ => none
mutual
def OkD : Sh → D → Prop
  | .int k, d => ∃ n, d = .v (.int k n) ∧ k.has n = true
  | .bool, d => ∃ b, d = .v (.bool b)
  | .str, d => ∃ s : ByteArray, d = .v (.string s) ∧ s.size ≤ maxLen
  | .sl row, d => ∃ n f, d = .sl row.length n f ∧ n ≤ maxLen ∧ ∀ i, i < n → OkDs row (f i)
def OkDs : List Sh → List D → Prop
  | [], [] => True
  | s :: ss, d :: ds => OkD s d ∧ OkDs ss ds
  | _, _ => False
end
theorem OkDs.length : ∀ {ss : List Sh} {ds : List D}, OkDs ss ds → ds.length = ss.length
  | [], [], _ => rfl
  | s :: ss, d :: ds, h => by unfold OkDs at h; simp [OkDs.length h.2]
  | [], _ :: _, h => by unfold OkDs at h; exact h.elim
  | _ :: _, [], h => by unfold OkDs at h; exact h.elim
theorem OkDs.app : ∀ {ss tt : List Sh} {ds es : List D}, OkDs ss ds → OkDs tt es → OkDs (ss ++ tt) (ds ++ es)
  | [], _, [], _, _, h => h
  | s :: ss, tt, d :: ds, es, h, h' => by
    unfold OkDs at h
    show OkDs (s :: (ss ++ tt)) (d :: (ds ++ es))
    unfold OkDs
    exact ⟨h.1, OkDs.app h.2 h'⟩
  | [], _, _ :: _, _, h, _ => by unfold OkDs at h; exact h.elim
  | _ :: _, _, [], _, h, _ => by unfold OkDs at h; exact h.elim
/-- Cells that stand for data. -/
def Reps (I : Nat → Prop) (w : World) (ds : List D) (cs : List Value) : Prop := cs.length = ds.length ∧ ∀ (i : Nat) d u, ds[i]? = some d → cs[i]? = some u → RepD I w d u
theorem Reps.nil {I : Nat → Prop} {w : World} : Reps I w [] [] := ⟨rfl, fun i d u h => by simp at h⟩
theorem Reps.one {I : Nat → Prop} {w : World} {d : D} {u : Value} (h : RepD I w d u) : Reps I w [d] [u] := ⟨rfl, fun i d' u' hd hu => by
  cases i with
  | zero => simp at hd hu; subst hd; subst hu; exact h
  | succ i => simp at hd⟩
theorem Reps.app {I : Nat → Prop} {w : World} {ds es : List D} {cs us : List Value} (h : Reps I w ds cs) (h' : Reps I w es us) : Reps I w (ds ++ es) (cs ++ us) := by
  refine ⟨by simp [h.1, h'.1], fun i d u hd hu => ?_⟩
  rcases Nat.lt_or_ge i ds.length with hi | hi
  · rw [List.getElem?_append_left hi] at hd
    rw [List.getElem?_append_left (by rw [h.1]; exact hi)] at hu
    exact h.2 i d u hd hu
  · rw [List.getElem?_append_right hi] at hd
    rw [List.getElem?_append_right (by rw [h.1]; exact hi), h.1] at hu
    exact h'.2 _ d u hd hu
section
variable {H : Type} {enc : TypeId × Value → H} {P : Program} {w : World} {base : Nat} {spare : Nat → Bool} {held : Bool}
theorem trod_array' {t e : TypeId} {n fuel : Nat} {cs : List Value} {x : DataW H × List MemPlace} (ht : P.underlying t = some (.array n e)) (h : DataW.trod enc P w base spare held fuel t cs = some x) :
    ∃ m, cs.length = P.cellsOf t ∧ ∀ i, i < n → ∃ y, DataW.trod enc P w base spare held m e ((cs.drop (i * P.cellsOf e)).take (P.cellsOf e)) = some y := by
  cases fuel with
  | zero => simp [DataW.trod] at h
  | succ m =>
    unfold DataW.trod at h
    rw [ht] at h
    simp only at h
    split at h
    · rename_i hl
      rw [Option.map_eq_some_iff] at h
      obtain ⟨xs, h1, _⟩ := h
      refine ⟨m, hl, fun i hi => ?_⟩
      have := mapM_some_get h1 i i (by simp [hi])
      have hlen := mapM_some_length h1
      rw [List.getElem?_eq_getElem (by rw [hlen]; simpa using hi)] at this
      exact ⟨_, this⟩
    · cases h
theorem trod_fields {m : Nat} (ih : ∀ (t : TypeId) (sh : List Sh) (fuel : Nat) (cs : List Value) (x : DataW H × List MemPlace), shOf P m t = some sh → DataW.trod enc P w base spare held fuel t cs = some x → ∃ ds, OkDs sh ds ∧ Reps (fun b => b < w.heap.size) w ds cs) {fuel : Nat} :
    ∀ (fs : List Field) (o : Nat) (sh : List Sh) (cs : List Value), shFields P.cellsOf (shOf P m) o fs = some sh → (∀ f ∈ fs, ∃ y, DataW.trod enc P w base spare held fuel f.type ((cs.drop f.offset).take (P.cellsOf f.type)) = some y) →
      o + sh.length = cs.length → ∃ ds, OkDs sh ds ∧ Reps (fun b => b < w.heap.size) w ds (cs.drop o)
  | [], o, sh, cs, h, _, hl => by
    simp only [shFields, Option.some.injEq] at h
    subst h
    refine ⟨[], by unfold OkDs; trivial, ?_⟩
    rw [List.drop_of_length_le (by simp at hl; omega)]
    exact Reps.nil
  | f :: fs, o, sh, cs, h, hf, hl => by
    simp only [shFields] at h
    split at h
    · rename_i ho
      rw [Option.bind_eq_some_iff] at h
      obtain ⟨a, ha, h⟩ := h
      split at h
      · rename_i hal
        rw [Option.map_eq_some_iff] at h
        obtain ⟨b, hb, rfl⟩ := h
        obtain ⟨y, hy⟩ := hf f (by simp)
        rw [ho] at hy
        obtain ⟨ds, h1, h2⟩ := ih f.type a fuel _ y ha hy
        rw [List.length_append] at hl
        obtain ⟨es, h3, h4⟩ := trod_fields ih fs (o + P.cellsOf f.type) b cs hb (fun g hg => hf g (by simp [hg])) (by omega)
        refine ⟨ds ++ es, h1.app h3, ?_⟩
        have := h2.app h4
        rwa [← List.drop_drop, List.take_append_drop] at this
      · cases h
    · cases h
theorem reps_array {I : Nat → Prop} {c : Nat} {sh : List Sh} : ∀ (n : Nat) (cs : List Value), cs.length = n * c → (∀ i, i < n → ∃ ds, OkDs sh ds ∧ Reps I w ds ((cs.drop (i * c)).take c)) → ∃ ds, OkDs (List.replicate n sh).flatten ds ∧ Reps I w ds cs
  | 0, cs, hl, _ => by
    have : cs = [] := List.length_eq_zero_iff.1 (by simpa using hl)
    subst this
    exact ⟨[], by simp only [List.replicate, List.flatten]; unfold OkDs; trivial, Reps.nil⟩
  | n + 1, cs, hl, h => by
    obtain ⟨ds, h1, h2⟩ := h 0 (Nat.succ_pos _)
    obtain ⟨es, h3, h4⟩ := reps_array (c := c) (sh := sh) n (cs.drop c) (by rw [List.length_drop, hl, Nat.succ_mul]; omega) (fun i hi => by
      obtain ⟨es, h3, h4⟩ := h (i + 1) (by omega)
      refine ⟨es, h3, ?_⟩
      rwa [List.drop_drop, show c + i * c = (i + 1) * c by rw [Nat.succ_mul]; omega])
    refine ⟨ds ++ es, ?_, ?_⟩
    · rw [List.replicate_succ, List.flatten_cons]; exact h1.app h3
    · simp only [Nat.zero_mul, List.drop_zero] at h2
      have := h2.app h4
      rwa [List.take_append_drop] at this
theorem has_of_wf {k : IntKind} {n : Int} (h : (Lit.int k n).wf = true) : k.has n = true := by
  simpa [Lit.wf, IntKind.has] using h
theorem trod_reps : ∀ (m : Nat) (t : TypeId) (sh : List Sh) (fuel : Nat) (cs : List Value) (x : DataW H × List MemPlace), shOf P m t = some sh → DataW.trod enc P w base spare held fuel t cs = some x →
    ∃ ds, OkDs sh ds ∧ Reps (fun b => b < w.heap.size) w ds cs := by
  intro m
  induction m with
  | zero => intro t sh fuel cs x h; simp [shOf] at h
  | succ m ih =>
    intro t sh fuel cs x h hx
    unfold shOf at h
    split at h
    · rename_i k hu
      cases h
      obtain ⟨n, rfl, _, hw⟩ := DataW.trod_int hu hx
      exact ⟨[.v (.int k n)], by unfold OkDs; exact ⟨by unfold OkD; exact ⟨n, rfl, has_of_wf hw⟩, by unfold OkDs; trivial⟩, Reps.one (.v _ rfl)⟩
    · rename_i hu
      cases h
      obtain ⟨b, rfl, _⟩ := DataW.trod_bool hu hx
      exact ⟨[.v (.bool b)], by unfold OkDs; exact ⟨by unfold OkD; exact ⟨b, rfl⟩, by unfold OkDs; trivial⟩, Reps.one (.v _ rfl)⟩
    · rename_i hu
      cases h
      obtain ⟨s, rfl, _, hs⟩ := DataW.trod_string hu hx
      exact ⟨[.v (.string s)], by unfold OkDs; exact ⟨by unfold OkD; exact ⟨s, rfl, hs⟩, by unfold OkDs; trivial⟩, Reps.one (.v _ rfl)⟩
    · rename_i fs hu
      rw [Option.bind_eq_some_iff] at h
      obtain ⟨l, hl, h⟩ := h
      split at h
      · rename_i hc
        cases h
        obtain ⟨xs, n, rfl, _, hlen, hxl, hfs⟩ := DataW.trod_struct hu hx
        obtain ⟨ds, h1, h2⟩ := trod_fields (fuel := n) ih fs.toList 0 sh cs hl (fun f hf => by
          obtain ⟨i, hi, rfl⟩ := List.getElem_of_mem hf
          have h3 := hfs i fs.toList[i] (by simp)
          rw [List.getElem?_eq_getElem (by rw [hxl]; simpa using hi)] at h3
          exact ⟨_, h3⟩) (by omega)
        exact ⟨ds, h1, by simpa using h2⟩
      · cases h
    · rename_i n e hu
      rw [Option.bind_eq_some_iff] at h
      obtain ⟨a, ha, h⟩ := h
      split at h
      · rename_i hc
        cases h
        obtain ⟨m', hlen, hy⟩ := trod_array' hu hx
        exact reps_array n cs (by rw [hlen, hc.2]) (fun i hi => by
          obtain ⟨y, hy⟩ := hy i hi
          exact ih e a m' _ y ha hy)
      · cases h
    · rename_i e hu
      rw [Option.bind_eq_some_iff] at h
      obtain ⟨a, ha, h⟩ := h
      split at h
      · rename_i hca
        obtain ⟨hc, hca⟩ := hca
        cases h
        rcases Deep.open_slice hu hx with ⟨rfl, _⟩ | ⟨ad, len, cap, mm, n, D0, Pl, rfl, _, hlc, hcm, hmm, _, hel⟩
        · exact ⟨[.sl a.length 0 fun _ => []], by unfold OkDs; exact ⟨by unfold OkD; exact ⟨0, _, rfl, Nat.zero_le _, fun i hi => absurd hi (Nat.not_lt_zero _)⟩, by unfold OkDs; trivial⟩, Reps.one (.slE _ _ _ _)⟩
        · have hle : len ≤ mm := by rw [hmm]; split <;> omega
          have hall : ∀ i, i < len → ∃ p : List D × List Value, OkDs a p.1 ∧ Reps (fun b => b < w.heap.size) w p.1 p.2 ∧ w.cells? base (ad.add (i * P.cellsOf e)) (P.cellsOf e) = some p.2 := fun i hi => by
            obtain ⟨cs', h1, h2⟩ := hel i (by omega)
            obtain ⟨ds, h3, h4⟩ := ih e a n cs' _ ha h2
            exact ⟨(ds, cs'), h3, h4, h1⟩
          obtain ⟨f, hf⟩ := Deep.choose_lt hall
          refine ⟨[.sl a.length len fun i => (f i).1], by unfold OkDs; exact ⟨by unfold OkD; exact ⟨len, _, rfl, by omega, fun i hi => (hf i hi).1⟩, by unfold OkDs; trivial⟩, Reps.one ?_⟩
          by_cases h0 : len = 0
          · subst h0; exact .slE _ _ _ _
          refine .sl _ _ _ _ _ (fun i j => ((f i).2[j]?).getD (.bool false)) hlc ?_ (fun i hi => (hf i hi).1.length) (fun i j d hi hd => ?_) (fun i j d hi hd => ?_)
          · obtain ⟨_, h2, h3⟩ := hf 0 (by omega)
            have := World.cells?_block h3 (by omega)
            unfold Addr.add at this
            simpa using this
          · obtain ⟨h1, h2, h3⟩ := hf i hi
            obtain ⟨_, h4, h5⟩ := World.cells?_some h3
            have hj : j < (f i).1.length := (List.getElem?_eq_some_iff.1 hd).1
            rw [h2.1.symm, h4] at hj
            have h6 := h5 j hj
            rw [List.getElem?_eq_getElem (by omega)] at h6
            rw [Deep.add_add] at h6
            rw [hc, h6, List.getElem?_eq_getElem (by omega)]
            rfl
          · obtain ⟨h1, h2, h3⟩ := hf i hi
            have hj : j < (f i).1.length := (List.getElem?_eq_some_iff.1 hd).1
            rw [← h2.1] at hj
            rw [List.getElem?_eq_getElem hj]
            exact h2.2 j d _ hd (List.getElem?_eq_getElem hj)
      · cases h
    · cases h
/-- Arguments of given shapes: whether it is a struct or an array, and its cells. -/
def shAll (P : Program) : List TypeId → Option (List (Bool × List Sh))
  | [] => some []
  | t :: ts => (shOf P 20 t).bind fun s => if P.readableRec t = true ∧ t < P.types.size then (shAll P ts).map fun r => ((match P.underlying t with | some (.struct _) | some (.array _ _) => true | _ => false), s) :: r else none
def ArgOk : List (Bool × List Sh) → List V → Prop
  | [], [] => True
  | (b, sh) :: r, v :: vs => (∃ ds, OkDs sh ds ∧ (b = true ∧ v = .agg (ds.map .d) ∨ b = false ∧ ∃ d, ds = [d] ∧ v = .c (.d d))) ∧ ArgOk r vs
  | _, _ => False
theorem okWide_agg {t : TypeId} {v : Value} (h : Value.okWide P w .any base t v) (hb : (match P.underlying t with | some (.struct _) | some (.array _ _) => true | _ => false) = true) : ∃ cs, v = .agg cs := by
  unfold Value.okWide at h
  split at hb
  · rename_i fs hu; rw [hu] at h; exact ⟨_, h.choose_spec.1⟩
  · rename_i n e hu; rw [hu] at h; exact ⟨_, h.choose_spec.1⟩
  · cases hb
theorem below_all (hl : laidOutB P = true) {W W' : World} (hb : Below W.heap.size W W') : ∀ {ts : List TypeId} {vs : List Value} {ds : List (DataW H)} {p : List MemPlace} {shs : List (Bool × List Sh)}, shAll P ts = some shs →
    DataW.TrodAll enc P W 0 (fun _ => true) true ts vs ds p → DataW.TrodAll enc P W' 0 (fun b => decide (b < W.heap.size)) true ts vs ds p
  | [], _, _, _, _, _, h => by
    obtain ⟨rfl, rfl, rfl⟩ := trodAll_nil h
    exact trodAll_mk0
  | t :: ts, _, _, _, _, hs, h => by
    have hlt := h.lt
    obtain ⟨v, vs1, d, ds1, a, b, rfl, rfl, rfl, h1, h2⟩ := trodAll_cons h
    simp only [shAll, Option.bind_eq_some_iff] at hs
    obtain ⟨s, _, hs⟩ := hs
    split at hs
    · rename_i hr
      rw [Option.map_eq_some_iff] at hs
      obtain ⟨r, hr', _⟩ := hs
      exact ⟨a, b, Below.trod hl hr.1 hr.2 h1 hb (fun x hx => hlt x (by simp [hx])), below_all hl hb hr' h2, rfl⟩
    · cases hs
theorem args_rep {Γ : Cx} (hΓ : Γ.I = fun b => b < w.heap.size) : ∀ {ts : List TypeId} {vs : List Value} {ds : List (DataW H)} {p : List MemPlace} {shs : List (Bool × List Sh)}, shAll P ts = some shs →
    DataW.TrodAll enc P w 0 (fun _ => true) true ts vs ds p → (∀ (j : Nat) t v, ts[j]? = some t → vs[j]? = some v → Value.okWide P w .any base t v) →
    ∃ args : List V, ArgOk shs args ∧ vs.length = args.length ∧ ∀ (i : Nat) v u, args[i]? = some v → vs[i]? = some u → RepV Γ w v u
  | [], _, _, _, _, hs, h, _ => by
    obtain ⟨rfl, rfl, rfl⟩ := trodAll_nil h
    simp only [shAll, Option.some.injEq] at hs
    subst hs
    exact ⟨[], trivial, rfl, fun i v u h => by simp at h⟩
  | t :: ts, _, _, _, _, hs, h, hv => by
    obtain ⟨v, vs1, d, ds1, a, b, rfl, rfl, rfl, h1, h2⟩ := trodAll_cons h
    simp only [shAll, Option.bind_eq_some_iff] at hs
    obtain ⟨s, hs1, hs⟩ := hs
    split at hs
    · rename_i hr
      rw [Option.map_eq_some_iff] at hs
      obtain ⟨r, hr', rfl⟩ := hs
      obtain ⟨args, q1, q2, q3⟩ := args_rep hΓ hr' h2 (fun j t' v' hj hj' => hv (j + 1) t' v' (by simpa using hj) (by simpa using hj'))
      obtain ⟨fuel, hx⟩ := h1
      obtain ⟨es, e1, e2⟩ := trod_reps 20 t s fuel _ _ hs1 hx
      have hok := hv 0 t v rfl rfl
      have hcons : ∀ x : V, RepV Γ w x v → ∀ (i : Nat) (y : V) (u : Value), (x :: args)[i]? = some y → (v :: vs1)[i]? = some u → RepV Γ w y u := fun x hx i y u hy hu => by
        cases i with
        | zero => simp at hy hu; subst hy; subst hu; exact hx
        | succ i => exact q3 i y u (by simpa using hy) (by simpa using hu)
      cases hb : (match P.underlying t with | some (.struct _) | some (.array _ _) => true | _ => false) with
      | true =>
        obtain ⟨cs, rfl⟩ := okWide_agg hok hb
        refine ⟨.agg (es.map .d) :: args, ⟨⟨es, e1, .inl ⟨rfl, rfl⟩⟩, q1⟩, by simp [q2], hcons _ ?_⟩
        have e3 : cs.toList.length = es.length := e2.1
        refine .agg _ _ (by simpa using e3) (fun i c u hc hu => ?_)
        simp only [List.getElem?_map, Option.map_eq_some_iff] at hc
        obtain ⟨dd, hd, rfl⟩ := hc
        show RepD Γ.I w dd u
        rw [hΓ]
        exact e2.2 i dd u hd (by show cs.toList[i]? = some u; simpa using hu)
      | false =>
        have hone : v.cells.toList = [v] ∨ ∃ cs, v = .agg cs := by
          cases v <;> first | exact .inl rfl | exact .inr ⟨_, rfl⟩
        have hcell : Cell.okWide P w .any base t v := by
          unfold Value.okWide at hok
          split at hok
          · rename_i hu; rw [hu] at hb; cases hb
          · rename_i hu; rw [hu] at hb; cases hb
          · exact hok
        have hsl : s.length = 1 := by
          unfold shOf at hs1
          split at hs1
          · cases hs1; rfl
          · cases hs1; rfl
          · cases hs1; rfl
          · rename_i hu; rw [hu] at hb; cases hb
          · rename_i hu; rw [hu] at hb; cases hb
          · rw [Option.bind_eq_some_iff] at hs1
            obtain ⟨a, _, hs1⟩ := hs1
            split at hs1
            · cases hs1; rfl
            · cases hs1
          · cases hs1
        obtain ⟨dd, rfl⟩ : ∃ dd, es = [dd] := by
          have := e1.length
          rw [hsl] at this
          exact List.length_eq_one_iff.1 this
        refine ⟨.c (.d dd) :: args, ⟨⟨[dd], e1, .inr ⟨rfl, dd, rfl, rfl⟩⟩, q1⟩, by simp [q2], hcons _ ?_⟩
        have hvc : v.cells.toList = [v] := by
          rcases hone with h | ⟨cs, rfl⟩
          · exact h
          · exfalso
            unfold shOf at hs1
            split at hs1 <;> rename_i hu <;> first | (simp [Cell.okWide, Cell.ok, hu] at hcell; done) | (rw [hu] at hb; cases hb) | cases hs1
        refine .c _ _ ?_
        show RepD Γ.I w dd v
        rw [hΓ]
        exact e2.2 0 dd v rfl (by rw [hvc]; rfl)
    · cases hs
theorem storeOk_nil {Γ : Cx} (h : ∀ k, Γ.I k → k < w.heap.size) (hl : LayOk Γ.I w) : StoreOk Γ w [] :=
  ⟨h, fun id e hg => by simp [get] at hg, fun i j k hi => by
    rcases hi with ⟨_, h⟩ | ⟨_, _, _, _, h, _⟩ | ⟨_, _, _, _, h⟩ | ⟨_, _, h⟩ <;> simp [get] at h, hl⟩
theorem not_live_nil {Γ : Cx} {k : Nat} : ¬ Live Γ [] k := fun ⟨_, hi, _⟩ => by
  rcases hi with ⟨_, h⟩ | ⟨_, _, _, _, h, _⟩ | ⟨_, _, _, _, h⟩ | ⟨_, _, h⟩ <;> simp [get] at h
/-- A law from its contract. -/
theorem law_calls {f : FuncId} {F : Func} {s : ChangeSpec} {shs : List (Bool × List Sh)} {tb : TypeId} (hl : laidOutB P = true) (hs : shAll P F.params.toList = some shs) (hv : s.vars = []) (hfn : ∀ ds : List (DataW H), ds.length = F.params.size → s.fn H ds = { results := [.lit (.bool true)], args := ds })
    (hr : F.resultTypes = #[tb]) (htb : P.underlying tb = some .bool) (hp : ∀ args, ArgOk shs args → PFD P f args (vbl true)) (W : World) (base : Nat) (args : Array Value) (ds gs : List (DataW H)) (before : List MemPlace)
    (hlw : LaidW W) (hval : ∀ (j : Nat) t v, F.params[j]? = some t → args[j]? = some v → Value.okWide P W .any base t v) (hW : DataW.Whole enc P F.params.toList s.vars false W args.toList ds gs before) :
    Calls P f args W fun e W' => ∃ v, e = .returned v ∧ s.post enc P F false true false false W args v W' := by
  have hW' := hW
  obtain ⟨p, q, hA, hV, rfl, hfz, hnd⟩ := hW
  rw [hv] at hV
  obtain ⟨rfl, rfl⟩ := trodVars_none hV
  let Γ : Cx := ⟨fun b => b < W.heap.size, fun _ => none, fun _ => none⟩
  obtain ⟨avs, h1, h2, h3⟩ := args_rep (Γ := Γ) rfl hs hA (fun j t v hj hj' => hval j t v (by simpa using hj) (by simpa using hj'))
  refine ((hp avs h1).h.2.2 Γ W args (storeOk_nil (fun k hk => hk) ⟨W, hlw, fun k hk => ⟨hk, rfl⟩⟩) (fun _ _ _ => rfl) ⟨by simpa using h2, fun i v u hv hu => h3 i v u hv (by simpa using hu)⟩).mono fun e W' hq => ?_
  obtain ⟨u, Γ', rfl, hu, _, _, _, hE⟩ := hq
  have hu : u = .bool true := by
    cases hu with
    | c _ _ h => cases (show RepD Γ'.I W' (.v (.bool true)) u from h); rfl
  subst hu
  have hb : Below W.heap.size W W' := ⟨hE.os, hE.tape, hE.output, hE.size, fun k hk => hE.keep k hk not_live_nil⟩
  have hlen : ds.length = F.params.size := by
    have : ∀ {ts : List TypeId} {vs : List Value} {ds : List (DataW H)} {p : List MemPlace}, DataW.TrodAll enc P W 0 (fun _ => true) true ts vs ds p → ds.length = ts.length := by
      intro ts
      induction ts with
      | nil => intro vs ds p h; obtain ⟨rfl, rfl, rfl⟩ := trodAll_nil h; rfl
      | cons t ts ih =>
        intro vs ds p h
        obtain ⟨v, vs1, d, ds1, a, b, rfl, rfl, rfl, h1, h2⟩ := trodAll_cons h
        simp [ih h2]
    simpa using this hA
  refine ⟨_, rfl, ds, [], p ++ [], [], p, [], hW', ?_, ?_, ?_, World.keptBut_mono (fun x hx => ⟨hx, .inr (.inl (by simpa using hx))⟩) (hb.frame _), fun h => by cases h⟩
  · rw [List.append_nil, hfn ds hlen, hr]
    exact trodAll_mk1 (shut_bool htb true)
  · rw [List.append_nil, hfn ds hlen]
    exact below_all hl hb hs hA
  · rw [List.append_nil, hfn ds hlen, hv]
    exact rfl
end
end Go.Pw

set_option linter.unusedVariables false
namespace Go.Pw
open Go Go.RowKit
theorem PFD.ri {P : Program} {f : FuncId} {args args' : List V} {v : V} (h : PFD P f args' v) (hr : RIs args args') : PFD P f args v :=
  ⟨h.h.1, h.h.2.1, fun Γ w us h1 h2 h3 => h.h.2.2 Γ w us h1 h2 (hr.rep h3)⟩
theorem okDs_cons {s : Sh} {ss : List Sh} {ds : List D} (h : OkDs (s :: ss) ds) : ∃ d es, ds = d :: es ∧ OkD s d ∧ OkDs ss es := by
  cases ds with
  | nil => unfold OkDs at h; exact h.elim
  | cons d es => unfold OkDs at h; exact ⟨d, es, rfl, h.1, h.2⟩
theorem okDs_nil {ds : List D} (h : OkDs [] ds) : ds = [] := by
  cases ds with
  | nil => rfl
  | cons d es => unfold OkDs at h; exact h.elim
theorem okD_int {k : IntKind} {d : D} (h : OkD (.int k) d) : ∃ n, d = .v (.int k n) ∧ k.has n = true := by unfold OkD at h; exact h
theorem okD_sl {row : List Sh} {d : D} (h : OkD (.sl row) d) : ∃ n f, d = .sl row.length n f ∧ n ≤ maxLen ∧ ∀ i, i < n → OkDs row (f i) := by unfold OkD at h; exact h
/-- A slice, as a list of what its rows are. -/
theorem okD_list {row : List Sh} {α : Type} {r : α → List D} {Q : α → Prop} (a0 : α) (hr : ∀ ds, OkDs row ds → ∃ a, ds = r a ∧ Q a) {d : D} (h : OkD (.sl row) d) :
    ∃ l : List α, CEq (.d d) (slv row.length r a0 l) ∧ l.length ≤ maxLen ∧ ∀ a ∈ l, Q a := by
  obtain ⟨n, f, rfl, hn, hf⟩ := okD_sl h
  have : ∀ i, ∃ a, i < n → f i = r a ∧ Q a := fun i => by
    by_cases hi : i < n
    · obtain ⟨a, ha⟩ := hr _ (hf i hi); exact ⟨a, fun _ => ha⟩
    · exact ⟨a0, fun h => absurd h hi⟩
  refine ⟨(List.range n).map fun i => Classical.choose (this i), .sl (by simp) fun i hi => ?_, by simpa using hn, fun a ha => ?_⟩
  · have h1 := (Classical.choose_spec (this i) hi).1
    rw [h1, List.getD_eq_getElem?_getD]
    simp [hi]
  · obtain ⟨i, hi, rfl⟩ := List.mem_map.1 ha
    exact (Classical.choose_spec (this i) (by simpa using hi)).2
abbrev i64 (n : Int) : Prop := IntKind.i64.has n = true
/-- What an argument of a shape is. -/
abbrev Arg (b : Bool) (sh : List Sh) (v : V) : Prop := ∃ ds, OkDs sh ds ∧ (b = true ∧ v = .agg (ds.map .d) ∨ b = false ∧ ∃ d, ds = [d] ∧ v = .c (.d d))
theorem arg_c {s : Sh} {v : V} (h : Arg false [s] v) : ∃ d, v = .c (.d d) ∧ OkD s d := by
  obtain ⟨ds, h1, ⟨h2, _⟩ | ⟨_, d, rfl, rfl⟩⟩ := h
  · cases h2
  · obtain ⟨d', es, h3, h4, h5⟩ := okDs_cons h1
    cases h3
    exact ⟨d, rfl, h4⟩
theorem arg_int {v : V} (h : Arg false [.int .i64] v) : ∃ n : Int, v = vi .i64 n ∧ i64 n := by
  obtain ⟨d, rfl, h1⟩ := arg_c h
  obtain ⟨n, rfl, h2⟩ := okD_int h1
  exact ⟨n, rfl, h2⟩
end Go.Pw

namespace Go.Pw
theorem Fork.yes {b : Bool} {p q : Prop} (hb : b = true) (hp : p) : Fork b p q := ⟨fun _ => hp, fun h => absurd (hb.symm.trans h) (by decide)⟩
theorem Fork.no {b : Bool} {p q : Prop} (hb : b = false) (hq : q) : Fork b p q := ⟨fun h => absurd (hb.symm.trans h) (by decide), fun _ => hq⟩
theorem nd_t {x : Prop} [Decidable x] (h : ¬ x) : (!decide x) = true := by rw [decide_eq_false h]; rfl
theorem nd_f {x : Prop} [Decidable x] (h : x) : (!decide x) = false := by rw [decide_eq_true h]; rfl
end Go.Pw

set_option linter.unusedVariables false
namespace Go.Pw
open Go Go.RowKit
theorem ob {p : Prop} (h : p := by first | trivial | omega | ((try simp only [R64, E53, true_and, and_true, Int.toNat_natCast, List.length_cons, List.length_nil]); omega)) : p := h
theorem tt1 {b : Bool} (h : b = true := by first | exact rfl | (refine decide_eq_true ?_; omega) | (refine nd_t ?_; omega) | (simp only [decide_true, Bool.and_self, Bool.not_false] <;> fail)) : b = true := h
theorem ff1 {b : Bool} (h : b = false := by first | exact rfl | (refine decide_eq_false ?_; omega) | (refine nd_f ?_; omega) | (simp only [decide_true, Bool.and_self, Bool.not_true] <;> fail)) : b = false := h
theorem Owe.o {p q : Prop} (r : q) (l : p := by exact ob) : Owe p q := ⟨l, r⟩
theorem Owe.same {p q : Prop} (h : Owe p q) : Owe p q := h
theorem fkD {x p q : Prop} [h : Decidable x] (h1 : x → p) (h2 : ¬ x → q) : Fork (decide x) p q := Fork.dec h1 h2
theorem fkN {x p q : Prop} [h : Decidable x] (h1 : ¬ x → p) (h2 : x → q) : Fork (!decide x) p q := Fork.ndec h1 h2
theorem fkM {b : Bool} {p q : Prop} (h1 : b = true → p) (h2 : b = false → q) : Fork b p q := ⟨h1, h2⟩
theorem fkY {b : Bool} {p q : Prop} (hp : p) (hb : b = true := by exact tt1) : Fork b p q := Fork.yes hb hp
theorem fkF {b : Bool} {p q : Prop} (hq : q) (hb : b = false := by exact ff1) : Fork b p q := Fork.no hb hq
inductive QI where
  | v (x y : V)
  | c (x y : C)
  | e (x y : Ent)
  | vs (xs ys : List V)
  | cs (xs ys : List C)
  | en (env e0 : List (Nat × V))
  | eq (π : Nat → Nat) (env e0 : List (Nat × V))
  | st (π : Nat → Nat) (σ σ0 : Store)
def cloCB : C → Bool
  | .d _ | .tru | .fls | .rp _ | .z | .fn _ [] | .fl _ | .cx _ _ | .cl _ _ _ | .fnR _ _ | .fnB _ _ => true
  | _ => false
def cloCsB : List C → Bool
  | [] => true
  | c :: cs => cloCB c && cloCsB cs
def cloB : V → Bool
  | .c x => cloCB x
  | .agg cs => cloCsB cs
  | .unk => true
  | .tup _ => false
theorem cloCB_ok {c : C} (h : cloCB c = true) : cloC c := by
  unfold cloCB at h
  split at h <;> first | trivial | rfl | cases h
theorem cloCsB_ok : ∀ {cs : List C}, cloCsB cs = true → cloCs cs
  | [], _ => trivial
  | c :: cs, h => by
    simp only [cloCsB, Bool.and_eq_true] at h
    exact ⟨cloCB_ok h.1, cloCsB_ok h.2⟩
theorem cloB_ok {v : V} (h : cloB v = true) : clo v := by
  cases v with
  | c x => exact cloCB_ok h
  | agg cs => exact cloCsB_ok h
  | unk => trivial
  | tup => cases h
def QI.so : QI → Prop
  | .v x y => VEq x y
  | .c x y => CEq x y
  | .e x y => EEq x y
  | .vs xs ys => VEqs xs ys
  | .cs xs ys => CEqs xs ys
  | .en env e0 => envIs env e0
  | .eq π env e0 => envEq π env e0
  | .st π σ σ0 => stoEq π σ σ0
/-- One step of agreement. -/
inductive QQ : QI → Prop
  | vsn : QQ (.vs [] [])
  | vsc {x y : V} {xs ys : List V} (h : QI.so (.v x y)) (t : QI.so (.vs xs ys)) : QQ (.vs (x :: xs) (y :: ys))
  | csn : QQ (.cs [] [])
  | csc {x y : C} {xs ys : List C} (h : QI.so (.c x y)) (t : QI.so (.cs xs ys)) : QQ (.cs (x :: xs) (y :: ys))
  | enn {env : List (Nat × V)} : QQ (.en env [])
  | enc {env e0 : List (Nat × V)} {t : Nat} {v : V} (h : QI.so (.v (lk env t) v)) (c : cloB v = true) (r : QI.so (.en env e0)) : QQ (.en env ((t, v) :: e0))
  | eqn {π : Nat → Nat} {env : List (Nat × V)} : QQ (.eq π env [])
  | eqc {π : Nat → Nat} {env e0 : List (Nat × V)} {t : Nat} {v : V} (h : QI.so (.v (lk env t) (rnV π v))) (r : QI.so (.eq π env e0)) : QQ (.eq π env ((t, v) :: e0))
  | stn {π : Nat → Nat} {σ : Store} : QQ (.st π σ [])
  | stc {π : Nat → Nat} {σ σ0 : Store} {id : Nat} {x y : Ent} (g : get σ (π id) = some y) (h : QI.so (.e y (rnE π x))) (r : QI.so (.st π σ σ0)) : QQ (.st π σ ((id, x) :: σ0))
  | vr (x : V) : QQ (.v x x)
  | er (x : Ent) : QQ (.e x x)
  | cr (x : C) : QQ (.c x x)
  | tru {b : Bool} (h : b = true) : QQ (.v (.c .tru) (vbl b))
  | fls {b : Bool} (h : b = false) : QQ (.v (.c .fls) (vbl b))
  | bool {a b : Bool} (h : a = b) : QQ (.v (vbl a) (vbl b))
  | int {k : IntKind} {a b : Int} (h : a = b) : QQ (.v (vi k a) (vi k b))
  | nil {s : Nat} {g : Nat → List D} : QQ (.v (.c (.d (.v (.slice none 0 0)))) (.c (.d (.sl s 0 g))))
  | z {s : Nat} {g : Nat → List D} : QQ (.v (.c .z) (.c (.d (.sl s 0 g))))
  | li1 {a0 : Int} : QQ (.v (.c (.d (.sl 1 [[dI a0]].length fun i => [[dI a0]].getD i []))) (.c (ints [a0])))
  | li2 {a0 a1 : Int} : QQ (.v (.c (.d (.sl 1 [[dI a0], [dI a1]].length fun i => [[dI a0], [dI a1]].getD i []))) (.c (ints [a0, a1])))
  | li3 {a0 a1 a2 : Int} : QQ (.v (.c (.d (.sl 1 [[dI a0], [dI a1], [dI a2]].length fun i => [[dI a0], [dI a1], [dI a2]].getD i []))) (.c (ints [a0, a1, a2])))
  | li4 {a0 a1 a2 a3 : Int} : QQ (.v (.c (.d (.sl 1 [[dI a0], [dI a1], [dI a2], [dI a3]].length fun i => [[dI a0], [dI a1], [dI a2], [dI a3]].getD i []))) (.c (ints [a0, a1, a2, a3])))
  | lp1 {a0 b0 : Int} : QQ (.v (.c (.d (.sl 2 [[dI a0, dI b0]].length fun i => [[dI a0, dI b0]].getD i []))) (.c (prs [(a0, b0)])))
  | lp2 {a0 b0 a1 b1 : Int} : QQ (.v (.c (.d (.sl 2 [[dI a0, dI b0], [dI a1, dI b1]].length fun i => [[dI a0, dI b0], [dI a1, dI b1]].getD i []))) (.c (prs [(a0, b0), (a1, b1)])))
  | lp3 {a0 b0 a1 b1 a2 b2 : Int} : QQ (.v (.c (.d (.sl 2 [[dI a0, dI b0], [dI a1, dI b1], [dI a2, dI b2]].length fun i => [[dI a0, dI b0], [dI a1, dI b1], [dI a2, dI b2]].getD i []))) (.c (prs [(a0, b0), (a1, b1), (a2, b2)])))
  | lp4 {a0 b0 a1 b1 a2 b2 a3 b3 : Int} : QQ (.v (.c (.d (.sl 2 [[dI a0, dI b0], [dI a1, dI b1], [dI a2, dI b2], [dI a3, dI b3]].length fun i => [[dI a0, dI b0], [dI a1, dI b1], [dI a2, dI b2], [dI a3, dI b3]].getD i []))) (.c (prs [(a0, b0), (a1, b1), (a2, b2), (a3, b3)])))
  | lt1 {a0 b0 c0 : Int} : QQ (.v (.c (.d (.sl 3 [[dI a0, dI b0, dI c0]].length fun i => [[dI a0, dI b0, dI c0]].getD i []))) (.c (trs [(a0, b0, c0)])))
  | lt2 {a0 b0 c0 a1 b1 c1 : Int} : QQ (.v (.c (.d (.sl 3 [[dI a0, dI b0, dI c0], [dI a1, dI b1, dI c1]].length fun i => [[dI a0, dI b0, dI c0], [dI a1, dI b1, dI c1]].getD i []))) (.c (trs [(a0, b0, c0), (a1, b1, c1)])))
  | lt3 {a0 b0 c0 a1 b1 c1 a2 b2 c2 : Int} : QQ (.v (.c (.d (.sl 3 [[dI a0, dI b0, dI c0], [dI a1, dI b1, dI c1], [dI a2, dI b2, dI c2]].length fun i => [[dI a0, dI b0, dI c0], [dI a1, dI b1, dI c1], [dI a2, dI b2, dI c2]].getD i []))) (.c (trs [(a0, b0, c0), (a1, b1, c1), (a2, b2, c2)])))
  | ms {id n m : Nat} (h : n = m) : QQ (.v (.c (.ms id n)) (.c (.ms id m)))
  | sll {α : Type} {s : Nat} {row : α → List D} {d : α} {l m : List α} (h : l = m) : QQ (.v (.c (slv s row d l)) (.c (slv s row d m)))
  | aggs {xs ys : List C} (h : QI.so (.cs xs ys)) : QQ (.v (.agg xs) (.agg ys))
  | boxs {xs ys : List C} (h : QI.so (.cs xs ys)) : QQ (.e (.box xs) (.box ys))
  | app1 {e : TypeId} {l l' : List Int} {a : Int} (hl : l' = l ++ [a]) : QQ (.e (.row e 1 (l.length + 1) (fun i => if i < l.length then r1 (l.getD i 0) else ([[dI a]].getD (i - l.length) [])) false) (rowv e 1 r1 0 l'))
  | app2 {e : TypeId} {l l' : List (Int × Int)} {a b : Int} (hl : l' = l ++ [(a, b)]) : QQ (.e (.row e 2 (l.length + 1) (fun i => if i < l.length then r2 (l.getD i (0, 0)) else ([[dI a, dI b]].getD (i - l.length) [])) false) (rowv e 2 r2 (0, 0) l'))
  | app3 {e : TypeId} {l l' : List (Int × Int × Int)} {a b c : Int} (hl : l' = l ++ [(a, b, c)]) : QQ (.e (.row e 3 (l.length + 1) (fun i => if i < l.length then r3 (l.getD i (0, 0, 0)) else ([[dI a, dI b, dI c]].getD (i - l.length) [])) false) (rowv e 3 r3 (0, 0, 0) l'))
  | cms {id n m : Nat} (h : n = m) : QQ (.c (.ms id n) (.ms id m))
  | cint {k : IntKind} {a b : Int} (h : a = b) : QQ (.c (.d (.v (.int k a))) (.d (.v (.int k b))))
  | csll {α : Type} {s : Nat} {row : α → List D} {d : α} {l m : List α} (h : l = m) : QQ (.c (slv s row d l) (slv s row d m))
  | cnil {s : Nat} {g : Nat → List D} : QQ (.c (.d (.v (.slice none 0 0))) (.d (.sl s 0 g)))
  | cz {s : Nat} {g : Nat → List D} : QQ (.c .z (.d (.sl s 0 g)))
  | ctru {b : Bool} (h : b = true) : QQ (.c .tru (.d (.v (.bool b))))
  | cfls {b : Bool} (h : b = false) : QQ (.c .fls (.d (.v (.bool b))))
  | cbool {a b : Bool} (h : a = b) : QQ (.c (.d (.v (.bool a))) (.d (.v (.bool b))))
  | lit {α : Type} {s : Nat} {row : α → List D} {d : α} {l : List α} {rs : List (List D)} (h : rs = l.map row) : QQ (.v (.c (.d (.sl s rs.length fun i => rs.getD i []))) (.c (slv s row d l)))
  | clit {α : Type} {s : Nat} {row : α → List D} {d : α} {l : List α} {rs : List (List D)} (h : rs = l.map row) : QQ (.c (.d (.sl s rs.length fun i => rs.getD i [])) (slv s row d l))
  | fl {a b : Int} (h : a = b) : QQ (.v (.c (.fl a)) (.c (.fl b)))
  | cx {a b c d : Int} (h : a = c) (h2 : b = d) : QQ (.v (.c (.cx a b)) (.c (.cx c d)))
  | mp {m : Nat} {es es' : List (Int × Int)} (h : es = es') : QQ (.e (.mp m es) (.mp m es'))
  | drp {α : Type} {s k : Nat} {row : α → List D} {d : α} {l m : List α} (h : m = l.drop k) : QQ (.v (.c (.d (.sl s (l.length - k) fun i => row (l.getD (k + i) d)))) (.c (slv s row d m)))
  | tak {α : Type} {s k : Nat} {row : α → List D} {d : α} {l m : List α} (h : k ≤ l.length ∧ m = l.take k) : QQ (.v (.c (.d (.sl s k fun i => row (l.getD i d)))) (.c (slv s row d m)))
  | cut {α : Type} {s k j : Nat} {row : α → List D} {d : α} {l m : List α} (h : k ≤ j ∧ j ≤ l.length ∧ m = (l.take j).drop k) : QQ (.v (.c (.d (.sl s (j - k) fun i => row (l.getD (k + i) d)))) (.c (slv s row d m)))
  | dapp {α : Type} {s : Nat} {row : α → List D} {d : α} {l l' : List α} {r : List D} (h : ∃ x, r = row x ∧ l' = l ++ [x]) : QQ (.v (.c (.d (.sl s (l.length + 1) fun i => if i < l.length then row (l.getD i d) else ([r].getD (i - l.length) [])))) (.c (slv s row d l')))
  | appg {α : Type} {e : TypeId} {s : Nat} {row : α → List D} {d : α} {l l' : List α} {r : List D} (h : ∃ x, r = row x ∧ l' = l ++ [x]) : QQ (.e (.row e s (l.length + 1) (fun i => if i < l.length then row (l.getD i d) else ([r].getD (i - l.length) [])) false) (rowv e s row d l'))
  | apps {α : Type} {e : TypeId} {s : Nat} {row : α → List D} {d : α} {l m l' : List α} (h : l' = l ++ m) : QQ (.e (.row e s (l.length + m.length) (fun i => if i < l.length then row (l.getD i d) else row (m.getD (i - l.length) d)) false) (rowv e s row d l'))
  | setg {α : Type} {e : TypeId} {s i j : Nat} {row : α → List D} {d : α} {l l' : List α} {ds : List D} (h : ∃ x, putD (row (l.getD i d)) j ds = row x ∧ l' = l.set i x) : QQ (.e (.row e s l.length (setRw (fun k => row (l.getD k d)) i j ds) false) (rowv e s row d l'))
  | mk {α : Type} {e : TypeId} {s n : Nat} {row : α → List D} {d : α} {l : List α} {r : List D} (h : ∃ x, r = row x ∧ l = List.replicate n x) : QQ (.e (.row e s n (fun _ => r) false) (rowv e s row d l))
  | elit {α : Type} {e : TypeId} {s : Nat} {row : α → List D} {d : α} {l : List α} {rs : List (List D)} (h : rs = l.map row) : QQ (.e (.row e s rs.length (fun i => rs.getD i []) false) (rowv e s row d l))
  | rll {α : Type} {e : TypeId} {s : Nat} {row : α → List D} {d : α} {l m : List α} {b : Bool} (h : l = m) : QQ (.e (.row e s l.length (fun i => row (l.getD i d)) b) (.row e s m.length (fun i => row (m.getD i d)) b))
theorem setRw_eq {α : Type} {e : TypeId} {s : Nat} {row : α → List D} {d : α} {l l' : List α} {i j : Nat} {ds : List D} (x : α) (h : putD (row (l.getD i d)) j ds = row x) (hl : l' = l.set i x) : EEq (.row e s l.length (setRw (fun k => row (l.getD k d)) i j ds) false) (rowv e s row d l') := by
  subst hl
  refine EEq.rowl (by simp) fun k hk => ?_
  unfold Pw.setRw
  rw [List.getD_eq_getElem?_getD (l := l.set i x), List.getElem?_set]
  split
  · rename_i hb
    have hb := Nat.eq_of_beq_eq_true hb
    subst hb
    rw [h, if_pos rfl, if_pos hk]; rfl
  · rename_i hb
    have hb : ¬ i = k := fun h => by subst h; rw [Nat.beq_refl] at hb; cases hb
    rw [if_neg hb]; show row (l.getD k d) = _; rw [List.getD_eq_getElem?_getD]
theorem getD_drop' {α : Type} {d : α} {l : List α} {k i : Nat} : (l.drop k).getD i d = l.getD (k + i) d := by
  simp only [List.getD_eq_getElem?_getD, List.getElem?_drop]
theorem getD_take' {α : Type} {d : α} {l : List α} {k i : Nat} (h : i < k) : (l.take k).getD i d = l.getD i d := by
  simp only [List.getD_eq_getElem?_getD, List.getElem?_take, if_pos h]
theorem lit_eq {α : Type} {s : Nat} {row : α → List D} {d : α} {l : List α} {rs : List (List D)} (h : rs = l.map row) : CEq (.d (.sl s rs.length fun i => rs.getD i [])) (slv s row d l) := by
  subst h
  refine CEq.sl (by simp) fun i hi => ?_
  have hi : i < l.length := by simpa using hi
  rw [List.getD_eq_getElem?_getD, List.getD_eq_getElem?_getD, List.getElem?_map, List.getElem?_eq_getElem hi]
  rfl
theorem QQ.sound {q : QI} (h : QQ q) : q.so := by
  cases h with
  | vsn | csn | enn | eqn | stn => trivial
  | vsc h t => exact ⟨h, t⟩
  | csc h t => exact ⟨h, t⟩
  | enc h c r => exact ⟨⟨h, cloB_ok c⟩, r⟩
  | eqc h r => exact ⟨h, r⟩
  | stc g h r => exact ⟨by rw [g]; exact h, r⟩
  | vr x => exact VEq.refl x
  | er x => exact EEq.same x
  | cr x => exact CEq.refl x
  | tru h => exact VEq.tru h
  | fls h => exact VEq.fls h
  | bool h => exact VEq.bool h
  | int h => exact VEq.int h
  | nil => exact VEq.nil
  | z => exact .c _ _ (.z _ _)
  | li1 => exact VEq.li_1
  | li2 => exact VEq.li_2
  | li3 => exact VEq.li_3
  | li4 => exact VEq.li_4
  | lp1 => exact VEq.lp_1
  | lp2 => exact VEq.lp_2
  | lp3 => exact VEq.lp_3
  | lp4 => exact VEq.lp_4
  | lt1 => exact VEq.lt_1
  | lt2 => exact VEq.lt_2
  | lt3 => exact VEq.lt_3
  | ms h => exact VEq.ms h
  | sll h => exact VEq.sll h
  | aggs h => exact VEq.aggs h
  | boxs h => exact EEq.boxs h
  | app1 h => exact EEq.app1 h
  | app2 h => exact EEq.app2 h
  | app3 h => exact EEq.app3 h
  | cms h => exact CEq.ms h
  | cint h => exact CEq.int h
  | csll h => exact CEq.sll h
  | cnil => exact CEq.nil
  | cz => exact .z _ _
  | ctru h => subst h; exact .tru
  | cfls h => subst h; exact .fls
  | cbool h => subst h; exact .refl _
  | lit h => exact .c _ _ (lit_eq h)
  | clit h => exact lit_eq h
  | fl h => subst h; exact .refl _
  | cx h h2 => subst h; subst h2; exact .refl _
  | mp h => subst h; exact .mp _ _
  | drp h => subst h; exact .c _ _ (CEq.sl (by simp) fun i hi => by rw [getD_drop'])
  | tak h => obtain ⟨h1, rfl⟩ := h; exact .c _ _ (CEq.sl (by simp; omega) fun i hi => by rw [getD_take' hi])
  | cut h => obtain ⟨h1, h2, rfl⟩ := h; exact .c _ _ (CEq.sl (by simp; omega) fun i hi => by rw [getD_drop', getD_take' (by omega)])
  | dapp h => obtain ⟨x, h1, rfl⟩ := h; exact .c _ _ (CEq.sl (by simp) fun i hi => row_app h1 i hi)
  | appg h => obtain ⟨x, h1, h2⟩ := h; exact EEq.app x h1 h2
  | apps h =>
    subst h
    refine EEq.rowl (by simp) fun i hi => ?_
    split
    · rename_i hlt; rw [List.getD_eq_getElem?_getD, List.getD_eq_getElem?_getD, List.getElem?_append_left hlt]
    · rename_i hlt; rw [List.getD_eq_getElem?_getD, List.getD_eq_getElem?_getD, List.getElem?_append_right (by omega)]
  | setg h => obtain ⟨x, h1, h2⟩ := h; exact setRw_eq x h1 h2
  | mk h =>
    obtain ⟨x, rfl, rfl⟩ := h
    refine EEq.rowl (by simp) fun i hi => ?_
    rw [List.getD_eq_getElem?_getD, List.getElem?_replicate, if_pos hi]; rfl
  | elit h =>
    subst h
    refine EEq.rowl (by simp) fun i hi => ?_
    rw [List.length_map] at hi
    rw [List.getD_eq_getElem?_getD, List.getD_eq_getElem?_getD, List.getElem?_map, List.getElem?_eq_getElem hi]
    rfl
  | rll h => subst h; exact EEq.same _
theorem qS {q : QI} (h : QQ q) : q.so := h.sound
theorem qv {x y : V} (h : QI.so (.v x y)) : VEq x y := h
theorem qc {x y : C} (h : QI.so (.c x y)) : CEq x y := h
theorem qe {x y : Ent} (h : QI.so (.e x y)) : EEq x y := h
theorem qvs {x y : List V} (h : QI.so (.vs x y)) : VEqs x y := h
theorem qcs {x y : List C} (h : QI.so (.cs x y)) : CEqs x y := h
theorem qen {x y : List (Nat × V)} (h : QI.so (.en x y)) : envIs x y := h
theorem qeq {π : Nat → Nat} {x y : List (Nat × V)} (h : QI.so (.eq π x y)) : envEq π x y := h
theorem qst {π : Nat → Nat} {x y : Store} (h : QI.so (.st π x y)) : stoEq π x y := h
theorem qis {base : Nat} {st st0 : St} {l : List Nat} (h : QI.so (.eq (nmAt base l) st.env st0.env)) (h2 : QI.so (.st (nmAt base l) st.σ st0.σ)) (nm : (nmOk base st0.nx l && envLtB st0.nx st0.env && stoLtB st0.nx st0.σ) = true := by exact rfl) : Is base st st0 l := ⟨nm, h, h2⟩
section
variable {P : Program} [m : Mix P] {N base : Nat}
theorem rqK {nx nx' : Nat} {rl : List RL} {vs vs0 : List V} {e : Exit} {st : St} (hres : resAll st.env st.σ rl = some vs0) (hv : QI.so (.vs vs0 vs)) (he : e = .normal ∨ e = .ret := by first | exact .inr rfl | exact .inl rfl) (hle : nx ≤ nx' := by exact Nat.le_refl _) (hc : cloL vs := by simp only [cloL, clo, cloC, cloCs, and_self]) : RetQ nx rl vs [] nx' e st :=
  RetQ.plain hle he hres hc hv
theorem rqF {nx nx' : Nat} {rl : List RL} {vs vs0 : List V} {e : Exit} {env : List (Nat × V)} {σ : Store} {nx1 : Nat} (t : Nat) (id : Nat) {n : Nat} {ty : TypeId} {s m : Nat} {f : Nat → List D} {fz : Bool} (hres : resAll env σ rl = some vs0) (h : lk (argEnv 0 vs0) t = .c (.ms id n)) (hg : get σ id = some (.row ty s m f fz))
    (hv : QI.so (.en ((t, .c (.d (.sl s n f))) :: argEnv 0 vs0) (argEnv 0 vs))) (hl : Nat.beq vs0.length vs.length = true := by exact rfl) (hle : Nat.ble nx nx' = true := by exact rfl) (hn : n ≤ m := by exact Nat.le_refl _) (he : e = .normal ∨ e = .ret := by first | exact .inr rfl | exact .inl rfl) : RetQ nx rl vs [] nx' e ⟨env, σ, nx1⟩ :=
  RetQ.of he hres hl ((Mv.freeze t id h hg hn).trans (Mv.plain hle hv))
theorem pi1 {f : FuncId} {lc : LCode} {rl : List RL} {args : List V} {v : V} (hf : FnOk P f N lc rl) (h : wp P N 0 lc ⟨argEnv 0 args, [], 0⟩ (RetQ 0 rl [v] [] 0)) (hN : Nat.ble args.length N = true := by exact rfl) (hc : cloL args := by simp only [cloL, clo, cloC, cloCs, and_self]) : PFD P f args v := PFD.of (vs := [v]) hf hN hc h
theorem pi2 {f : FuncId} {lc : LCode} {rl : List RL} {args : List V} {v v2 : V} (hf : FnOk P f N lc rl) (h : wp P N 0 lc ⟨argEnv 0 args, [], 0⟩ (RetQ 0 rl [v, v2] [] 0)) (hN : Nat.ble args.length N = true := by exact rfl) (hc : cloL args := by simp only [cloL, clo, cloC, cloCs, and_self]) : PFD P f args (.tup [v, v2]) := PFD.of (vs := [v, v2]) hf hN hc h
theorem pi3 {f : FuncId} {lc : LCode} {rl : List RL} {args : List V} {v v2 v3 : V} (hf : FnOk P f N lc rl) (h : wp P N 0 lc ⟨argEnv 0 args, [], 0⟩ (RetQ 0 rl [v, v2, v3] [] 0)) (hN : Nat.ble args.length N = true := by exact rfl) (hc : cloL args := by simp only [cloL, clo, cloC, cloCs, and_self]) : PFD P f args (.tup [v, v2, v3]) := PFD.of (vs := [v, v2, v3]) hf hN hc h
theorem fits {env : List (Nat × V)} {xs : List Operand} {args : List V} (h : Fits env xs args := by first | exact Fits.eq rfl | exact Fits.veq (qvs (by (repeat' first | exact rfl | (refine qS ?_; constructor)) <;> fail))) : Fits env xs args := h
variable {dst : Option Nat} {fop : Operand} {xs : List Operand} {g : Option (Nat × Bool)} {rest : List LIns} {env : List (Nat × V)} {σ : Store} {nx : Nat} {K : St → Prop} {f : FuncId} {args : List V} {v : V} {p : Prop} {M : List Nat} {acc : List (Bool × List Nat)}
theorem A1.oK (hc : PFD P f args v) (hf : evo env fop = .c (.fn f [])) (hg : guardOf env g = .run) (ha : (xs.map (evo env)).map normA = args) (h : putK dst v env fun env' => wpOps P N base rest env' σ nx none K) : OpsL P N base (⟨dst, .call fop xs, g⟩ :: rest) ⟨env, σ, nx⟩ K := Ops.pc hf (Fits.eq ha) hc hg h
theorem A2.oK (hc : p → PFD P f args v) (hf : evo env fop = .c (.fn f [])) (hg : guardOf env g = .run) (ha : (xs.map (evo env)).map normA = args) (h : putK dst v env fun env' => wpOps P N base rest env' σ nx none K) (hp : p := by exact ob) : OpsL P N base (⟨dst, .call fop xs, g⟩ :: rest) ⟨env, σ, nx⟩ K := Ops.pc hf (Fits.eq ha) (hc hp) hg h
theorem A3.oK (hc : PFD P f args v) (hf : evo env fop = .c (.fn f [])) (hg : guardOf env g = .run) (ha : (xs.map (evo env)).map normA = args) (h : putK dst v env fun env' => wpD P N base M rest env' σ nx none ((false, []) :: acc) K) : OpsDL P N base M (⟨dst, .call fop xs, g⟩ :: rest) ⟨env, σ, nx⟩ acc K := OpsD.pc hf (Fits.eq ha) hc hg h
theorem A4.oK (hc : p → PFD P f args v) (hf : evo env fop = .c (.fn f [])) (hg : guardOf env g = .run) (ha : (xs.map (evo env)).map normA = args) (h : putK dst v env fun env' => wpD P N base M rest env' σ nx none ((false, []) :: acc) K) (hp : p := by exact ob) : OpsDL P N base M (⟨dst, .call fop xs, g⟩ :: rest) ⟨env, σ, nx⟩ acc K := OpsD.pc hf (Fits.eq ha) (hc hp) hg h
theorem A1.pK (hc : PFD P f args v) (hf : evo env fop = .c (.fn f [])) (hg : guardOf env g = .run) (h : putK dst v env fun env' => wpOps P N base rest env' σ nx none K) (ha : Fits env xs args := by exact fits) : OpsL P N base (⟨dst, .call fop xs, g⟩ :: rest) ⟨env, σ, nx⟩ K := Ops.pc hf ha hc hg h
theorem A2.pK (hc : p → PFD P f args v) (hf : evo env fop = .c (.fn f [])) (hg : guardOf env g = .run) (h : putK dst v env fun env' => wpOps P N base rest env' σ nx none K) (ha : Fits env xs args := by exact fits) (hp : p := by exact ob) : OpsL P N base (⟨dst, .call fop xs, g⟩ :: rest) ⟨env, σ, nx⟩ K := Ops.pc hf ha (hc hp) hg h
theorem A3.pK (hc : PFD P f args v) (hf : evo env fop = .c (.fn f [])) (hg : guardOf env g = .run) (h : putK dst v env fun env' => wpD P N base M rest env' σ nx none ((false, []) :: acc) K) (ha : Fits env xs args := by exact fits) : OpsDL P N base M (⟨dst, .call fop xs, g⟩ :: rest) ⟨env, σ, nx⟩ acc K := OpsD.pc hf ha hc hg h
theorem A4.pK (hc : p → PFD P f args v) (hf : evo env fop = .c (.fn f [])) (hg : guardOf env g = .run) (h : putK dst v env fun env' => wpD P N base M rest env' σ nx none ((false, []) :: acc) K) (ha : Fits env xs args := by exact fits) (hp : p := by exact ob) : OpsDL P N base M (⟨dst, .call fop xs, g⟩ :: rest) ⟨env, σ, nx⟩ acc K := OpsD.pc hf ha (hc hp) hg h
variable {rows : List (List D)}
theorem RIs.rfl' : ∀ (R : List V), RIs R R
  | [] => .nil
  | _ :: R => .cons (RI.refl _) (RIs.rfl' R)
theorem ris0 {X Y : List V} (h : X.map normA = Y) : RIs X Y := h ▸ ris_norm _
theorem ris1 {x y : V} {R : List V} (h : QI.so (.v x y)) : RIs (x :: R) (y :: R) := .cons (VEq.ri (qv h)) (RIs.rfl' R)
theorem ris2 {x y x2 y2 : V} {R : List V} (h : QI.so (.v x y)) (h2 : QI.so (.v x2 y2)) : RIs (x :: x2 :: R) (y :: y2 :: R) := .cons (VEq.ri (qv h)) (.cons (VEq.ri (qv h2)) (RIs.rfl' R))
theorem fitsR {X args : List V} (h : RIs X args := by first | exact ris0 rfl | (refine ris1 ?_; (repeat' first | exact rfl | (refine qS ?_; constructor)); done) | (refine ris2 ?_ ?_; (repeat' first | exact rfl | (refine qS ?_; constructor)); done) | (refine VEqs.ris (qvs ?_); (repeat' first | exact rfl | (refine qS ?_; constructor)); done)) : RIs X args := h
theorem A1.pR (hc : PFD P f args v) (hf : evo env fop = .c (.fnR f rows)) (hg : guardOf env g = .run) (h : putK dst v env fun env' => wpOps P N base rest env' σ nx none K) (ha : RIs (xs.map (evo env) ++ rows.map fun r => V.c (.rp r)) args := by exact fitsR) : OpsL P N base (⟨dst, .call fop xs, g⟩ :: rest) ⟨env, σ, nx⟩ K := Ops.pcR hf ha hc hg h
theorem A2.pR (hc : p → PFD P f args v) (hf : evo env fop = .c (.fnR f rows)) (hg : guardOf env g = .run) (h : putK dst v env fun env' => wpOps P N base rest env' σ nx none K) (ha : RIs (xs.map (evo env) ++ rows.map fun r => V.c (.rp r)) args := by exact fitsR) (hp : p := by exact ob) : OpsL P N base (⟨dst, .call fop xs, g⟩ :: rest) ⟨env, σ, nx⟩ K := Ops.pcR hf ha (hc hp) hg h
theorem A3.pR (hc : PFD P f args v) (hf : evo env fop = .c (.fnR f rows)) (hg : guardOf env g = .run) (h : putK dst v env fun env' => wpD P N base M rest env' σ nx none ((false, []) :: acc) K) (ha : RIs (xs.map (evo env) ++ rows.map fun r => V.c (.rp r)) args := by exact fitsR) : OpsDL P N base M (⟨dst, .call fop xs, g⟩ :: rest) ⟨env, σ, nx⟩ acc K := OpsD.pcR hf ha hc hg h
theorem A4.pR (hc : p → PFD P f args v) (hf : evo env fop = .c (.fnR f rows)) (hg : guardOf env g = .run) (h : putK dst v env fun env' => wpD P N base M rest env' σ nx none ((false, []) :: acc) K) (ha : RIs (xs.map (evo env) ++ rows.map fun r => V.c (.rp r)) args := by exact fitsR) (hp : p := by exact ob) : OpsDL P N base M (⟨dst, .call fop xs, g⟩ :: rest) ⟨env, σ, nx⟩ acc K := OpsD.pcR hf ha (hc hp) hg h
variable {ds : List D}
end
end Go.Pw

set_option linter.unusedVariables false
namespace Go.Pw
open Go Go.RowKit
theorem liveId_setE {Γ : Cx} {σ : Store} {id : Nat} {x y : Ent} (hg : get σ id = some x) (h : EEq x y) (j : Nat) : LiveId Γ (set σ id y) j ↔ LiveId Γ σ j := by
  rw [liveId_iff, liveId_iff]
  by_cases hj : j = id
  · subst hj
    rw [get_set_same hg]
    constructor
    · rintro ⟨e, he, hl⟩; cases he; exact ⟨x, hg, h.live.1 hl⟩
    · rintro ⟨e, he, hl⟩; rw [hg] at he; cases he; exact ⟨y, rfl, h.live.2 hl⟩
  · rw [get_set_other hj]
theorem StoreOk.setE {Γ : Cx} {w : World} {σ : Store} {id : Nat} {x y : Ent} (hs : StoreOk Γ w σ) (hg : get σ id = some x) (h : EEq x y) : StoreOk Γ w (set σ id y) where
  im := hs.im
  ok := fun j e he => by
    by_cases hj : j = id
    · subst hj
      rw [get_set_same hg] at he; cases he
      obtain ⟨b, hb, hok⟩ := hs.ok j x hg
      exact ⟨b, hb, h.ent hok⟩
    · rw [get_set_other hj] at he; exact hs.ok j e he
  inj := fun i j k hi hj => hs.inj i j k ((liveId_setE hg h i).1 hi) ((liveId_setE hg h j).1 hj)
  lay := hs.lay
theorem Mv.ent {base : Nat} {env : List (Nat × V)} {σ : Store} {nx id : Nat} {x y : Ent} (hg : get σ id = some x) (h : EEq x y) : Mv base ⟨env, σ, nx⟩ ⟨env, set σ id y, nx⟩ := fun N B0 Γ w a hc => by
  have hl : ∀ k, Live Γ (set σ id y) k ↔ Live Γ σ k := fun k => ⟨fun ⟨i, hi, hk⟩ => ⟨i, (liveId_setE hg h i).1 hi, hk⟩, fun ⟨i, hi, hk⟩ => ⟨i, (liveId_setE hg h i).2 hi, hk⟩⟩
  refine ⟨Γ, ⟨hc.size, hc.env, hc.ok.setE hg h, hc.free, hc.le, ?_⟩, ⟨rfl, rfl, rfl, Nat.le_refl _, fun _ h => h, fun _ h => .inl h, fun _ _ => rfl, fun _ _ => rfl, fun _ _ _ => rfl, fun k hk => .inl ((hl k).1 hk)⟩⟩
  obtain ⟨Ds, d1, d2, d3⟩ := hc.dfs
  refine ⟨Ds, d1, d2, fun D hD => ?_⟩
  obtain ⟨d4, d5, d6, d7⟩ := d3 D hD
  exact ⟨d4, d5, fun hlv => d6 ((hl D).1 hlv), d7⟩
section
variable {P : Program} {N base : Nat} {env : List (Nat × V)} {σ : Store} {nx : Nat} {x y : Ent}
theorem OpsL.ent {ops : List LIns} {K : St → Prop} (id : Nat) (hg : get σ id = some x) (h : EEq x y) (k : frS (set σ id y) fun σ' => OpsL P N base ops ⟨env, σ', nx⟩ K) : OpsL P N base ops ⟨env, σ, nx⟩ K := by
  rw [frS_eq] at k
  exact ⟨Ops.from (Mv.ent hg h) k.h⟩
theorem SatL.ent {c : LCode} {Q : Exit → St → Prop} (id : Nat) (hg : get σ id = some x) (h : EEq x y) (k : frS (set σ id y) fun σ' => SatL P N base c ⟨env, σ', nx⟩ Q) : SatL P N base c ⟨env, σ, nx⟩ Q := by
  rw [frS_eq] at k
  exact ⟨Sat.from (Mv.ent hg h) k.h⟩
theorem MvQ.ent {e : Exit} {Q : Exit → St → Prop} (id : Nat) (hg : get σ id = some x) (h : EEq x y) (k : frS (set σ id y) fun σ' => MvQ base Q e ⟨env, σ', nx⟩) : MvQ base Q e ⟨env, σ, nx⟩ := by
  rw [frS_eq] at k
  exact MvQ.from (Mv.ent hg h) k
/-- A slot says it otherwise. -/
theorem SatL.as {c : LCode} {Q : Exit → St → Prop} (t : Nat) (v : V) (h : VEq (lk env t) v) (k : SatL P N base c ⟨(t, v) :: env, σ, nx⟩ Q) : SatL P N base c ⟨env, σ, nx⟩ Q :=
  ⟨Sat.from (Mv.env fun t' => by
    rw [lk_cons]
    split
    · rename_i ht; subst ht; exact h.ri
    · exact RI.refl _) k.h⟩
theorem OpsL.as {ops : List LIns} {K : St → Prop} (t : Nat) (v : V) (h : VEq (lk env t) v) (k : OpsL P N base ops ⟨(t, v) :: env, σ, nx⟩ K) : OpsL P N base ops ⟨env, σ, nx⟩ K :=
  ⟨Ops.from (Mv.env fun t' => by
    rw [lk_cons]
    split
    · rename_i ht; subst ht; exact h.ri
    · exact RI.refl _) k.h⟩
theorem VEq.cut {α : Type} {s k j : Nat} {row : α → List D} {d : α} {l m : List α} (h1 : k ≤ j) (h2 : j ≤ l.length) (h : m = (l.take j).drop k) : VEq (.c (.d (.sl s (j - k) fun i => row (l.getD (k + i) d)))) (.c (slv s row d m)) := QQ.sound (.cut ⟨h1, h2, h⟩)
/-- The row of a slot is closed. -/
theorem SatL.frz {c : LCode} {Q : Exit → St → Prop} (t id : Nat) {n : Nat} {e : TypeId} {s m : Nat} {f : Nat → List D} {fz : Bool} (h : lk env t = .c (.ms id n)) (hg : get σ id = some (.row e s m f fz)) (hn : n ≤ m)
    (k : frS (set σ id (.row e s m f true)) fun σ' => SatL P N base c ⟨(t, .c (.d (.sl s n f))) :: env, σ', nx⟩ Q) : SatL P N base c ⟨env, σ, nx⟩ Q := by
  rw [frS_eq] at k
  exact ⟨Sat.from (Mv.freeze t id h hg hn) k.h⟩
end
end Go.Pw

set_option linter.unusedSimpArgs false
set_option linter.unusedVariables false
namespace Go.Pw
open Go
theorem mbd {a b A B : Int} (ha : -A ≤ a ∧ a ≤ A) (hb : -B ≤ b ∧ b ≤ B) : -(A * B) ≤ a * b ∧ a * b ≤ A * B := by
  have hA : 0 ≤ A := by omega
  have hB : 0 ≤ B := by omega
  have h : (a * b).natAbs ≤ (A * B).natAbs := by
    rw [Int.natAbs_mul, Int.natAbs_mul]
    exact Nat.mul_le_mul (by omega) (by omega)
  have : 0 ≤ A * B := Int.mul_nonneg hA hB
  omega
/-- An error unless. -/
def unb : Bool → Int → Int
  | true, _ => 0
  | false, e => e
abbrev unl (p : Prop) [Decidable p] (e : Int) : Int := unb (decide p) e
theorem unl_eq {p : Prop} [Decidable p] {e : Int} : unl p e = if p then 0 else e := by
  by_cases h : p <;> simp [unl, unb, h]
/-- The first one that is not 0. -/
def fstE : List Int → Int
  | [] => 0
  | e :: l => if e = 0 then fstE l else e
theorem fstE_drop (l : List Int) (k : Nat) (h : k < l.length) : fstE (l.drop k) = if l.getD k 0 = 0 then fstE (l.drop (k + 1)) else l.getD k 0 := by
  rw [List.drop_eq_getElem_cons h, fstE, List.getD_eq_getElem?_getD, List.getElem?_eq_getElem h]
  rfl
theorem floor_eq {n b : Int} (hb : 0 < b) : (if n.tmod b < 0 then n.tdiv b - 1 else n.tdiv b) = n / b := by
  have h1 := Int.tmod_add_mul_tdiv n b
  have h2 := Int.emod_add_mul_ediv n b
  have h3 := Int.emod_nonneg n (show b ≠ 0 by omega)
  have h4 := Int.emod_lt_of_pos n hb
  have h5 : n.tmod b < b := Int.tmod_lt_of_pos n hb
  have h6 : -b < n.tmod b := by
    have := Int.natAbs_tmod n b
    have h7 : (n.natAbs % b.natAbs) < b.natAbs := Nat.mod_lt _ (by omega)
    omega
  split
  · refine Int.eq_of_mul_eq_mul_left (show b ≠ 0 by omega) ?_
    have h7 : b * (n / b) - b * (n.tdiv b - 1) = n.tmod b + b - n % b := by rw [Int.mul_sub]; omega
    have h8 : b * (n / b) - b * (n.tdiv b - 1) = b * (n / b - (n.tdiv b - 1)) := by rw [← Int.mul_sub]
    rw [h8] at h7
    have h9 : n / b - (n.tdiv b - 1) = 0 := by
      rcases Int.lt_trichotomy (n / b - (n.tdiv b - 1)) 0 with h | h | h
      · have := Int.mul_le_mul_of_nonneg_left (show n / b - (n.tdiv b - 1) ≤ -1 by omega) (show 0 ≤ b by omega); omega
      · exact h
      · have := Int.mul_le_mul_of_nonneg_left (show 1 ≤ n / b - (n.tdiv b - 1) by omega) (show 0 ≤ b by omega); omega
    rw [show n.tdiv b - 1 = n / b by omega]
  · have h7 : b * (n / b) - b * n.tdiv b = n.tmod b - n % b := by omega
    rw [← Int.mul_sub] at h7
    rcases Int.lt_trichotomy (n / b - n.tdiv b) 0 with h | h | h
    · have := Int.mul_le_mul_of_nonneg_left (show n / b - n.tdiv b ≤ -1 by omega) (show 0 ≤ b by omega); omega
    · omega
    · have := Int.mul_le_mul_of_nonneg_left (show 1 ≤ n / b - n.tdiv b by omega) (show 0 ≤ b by omega); omega
theorem mod_eq {n b : Int} (hb : 0 < b) : (if n.tmod b < 0 then n.tmod b + b else n.tmod b) = n % b := by
  have h1 := Int.tmod_add_mul_tdiv n b
  have h2 := Int.emod_add_mul_ediv n b
  have h3 := floor_eq (n := n) hb
  split
  · rename_i h; rw [if_pos h] at h3; rw [← h3, Int.mul_sub] at h2; omega
  · rename_i h; rw [if_neg h] at h3; rw [← h3] at h2; omega
theorem tmod_bd {n b : Int} (hb : 0 < b) : -b < n.tmod b ∧ n.tmod b < b := by
  have h5 : n.tmod b < b := Int.tmod_lt_of_pos n hb
  have := Int.natAbs_tmod n b
  have h7 : (n.natAbs % b.natAbs) < b.natAbs := Nat.mod_lt _ (by omega)
  omega
abbrev Lk := Int × Int × Int
abbrev Rg := Int × Int
abbrev lkOk (k : Lk) : Prop := (1 ≤ k.1 ∧ k.1 ≤ 1000) ∧ (-1000 ≤ k.2.1 ∧ k.2.1 ≤ 1000) ∧ 0 ≤ k.2.2 ∧ k.2.2 ≤ 20
abbrev curOk (n : Int) : Prop := -50 ≤ n ∧ n ≤ 50
/-- A valid line. -/
structure LnOk (x z : Int) (l : List Lk) : Prop where
  x : -10000 ≤ x ∧ x ≤ 10000
  z : -10000 ≤ z ∧ z ≤ 10000
  n : 0 < l.length ∧ l.length ≤ 10
  l : ∀ k ∈ l, lkOk k
structure Ln where
  x : Int
  z : Int
  l : List Lk
  b : List Rg
abbrev Ln.v (L : Ln) : List C := [int L.x, int L.z, trs L.l, prs L.b]
def Ln.h (L : Ln) (k : Nat) : Int := (L.l.getD k (0, 0, 0)).1
def Ln.w (L : Ln) (k : Nat) : Int := (L.l.getD k (0, 0, 0)).2.1
def Ln.d (L : Ln) (k : Nat) : Int := (L.l.getD k (0, 0, 0)).2.2
def Ln.lo (L : Ln) (k : Nat) : Int := (L.b.getD k (0, 0)).1
def Ln.hi (L : Ln) (k : Nat) : Int := (L.b.getD k (0, 0)).2
/-- The pull behind k links; the height of the last one. -/
def Ln.pl (L : Ln) : Nat → Int
  | 0 => L.x
  | k + 1 => L.pl k + L.d k * L.lo k
def Ln.ph (L : Ln) : Nat → Int
  | 0 => L.x
  | k + 1 => L.ph k + L.d k * L.hi k
def Ln.pz (L : Ln) : Nat → Int
  | 0 => L.z
  | k + 1 => L.pz k + L.w k
def Ln.hh (L : Ln) : Nat → Int
  | 0 => 0
  | k + 1 => L.h k
/-- A valid line with ranges of currents. -/
structure Ln.Ok (L : Ln) : Prop where
  k : LnOk L.x L.z L.l
  b : L.b.length = L.l.length
  c : ∀ r ∈ L.b, curOk r.1 ∧ curOk r.2 ∧ r.1 ≤ r.2
theorem getD_mem {α : Type} {l : List α} {k : Nat} (d : α) (h : k < l.length) : l.getD k d ∈ l := by
  rw [List.getD_eq_getElem?_getD, List.getElem?_eq_getElem h]; exact List.getElem_mem _
theorem Ln.Ok.lk {L : Ln} (h : L.Ok) {k : Nat} (hk : k < L.l.length) : (1 ≤ L.h k ∧ L.h k ≤ 1000) ∧ (-1000 ≤ L.w k ∧ L.w k ≤ 1000) ∧ 0 ≤ L.d k ∧ L.d k ≤ 20 := h.k.l _ (getD_mem _ hk)
theorem Ln.Ok.rg {L : Ln} (h : L.Ok) {k : Nat} (hk : k < L.l.length) : (-50 ≤ L.lo k ∧ L.lo k ≤ 50) ∧ (-50 ≤ L.hi k ∧ L.hi k ≤ 50) ∧ L.lo k ≤ L.hi k := h.c _ (getD_mem _ (by rw [h.b]; exact hk))
theorem Ln.Ok.dlo {L : Ln} (h : L.Ok) {k : Nat} (hk : k < L.l.length) : -1000 ≤ L.d k * L.lo k ∧ L.d k * L.lo k ≤ 1000 := by
  have h1 := h.lk hk
  have h2 := h.rg hk
  exact mbd (A := 20) (B := 50) (by omega) (by omega)
theorem Ln.Ok.dhi {L : Ln} (h : L.Ok) {k : Nat} (hk : k < L.l.length) : -1000 ≤ L.d k * L.hi k ∧ L.d k * L.hi k ≤ 1000 := by
  have h1 := h.lk hk
  have h2 := h.rg hk
  exact mbd (A := 20) (B := 50) (by omega) (by omega)
theorem Ln.Ok.bd {L : Ln} (h : L.Ok) : ∀ k : Nat, k ≤ L.l.length → (-20000 ≤ L.pl k ∧ L.pl k ≤ 20000) ∧ (-20000 ≤ L.ph k ∧ L.ph k ≤ 20000) ∧ -20000 ≤ L.pz k ∧ L.pz k ≤ 20000 := by
  have key : ∀ k : Nat, k ≤ L.l.length → (-10000 - 1000 * k ≤ L.pl k ∧ L.pl k ≤ 10000 + 1000 * k) ∧ (-10000 - 1000 * k ≤ L.ph k ∧ L.ph k ≤ 10000 + 1000 * k) ∧ -10000 - 1000 * k ≤ L.pz k ∧ L.pz k ≤ 10000 + 1000 * k := by
    intro k
    induction k with
    | zero => intro _; have := h.k.x; have := h.k.z; simp only [Ln.pl, Ln.ph, Ln.pz]; omega
    | succ k ih =>
      intro hk
      have := ih (by omega)
      have h1 := h.dlo (k := k) (by omega)
      have h2 := h.dhi (k := k) (by omega)
      have h3 := h.lk (k := k) (by omega)
      simp only [Ln.pl, Ln.ph, Ln.pz]
      omega
  intro k hk
  have := key k hk
  have := h.k.n
  omega
/-- What a round over the pulls knows. -/
theorem Ln.Ok.round {L : Ln} (h : L.Ok) {k : Nat} (hk : k < L.l.length) :
    (-1000 ≤ (L.l.getD k (0, 0, 0)).2.2 * (L.b.getD k (0, 0)).1 ∧ (L.l.getD k (0, 0, 0)).2.2 * (L.b.getD k (0, 0)).1 ≤ 1000) ∧
    (-1000 ≤ (L.l.getD k (0, 0, 0)).2.2 * (L.b.getD k (0, 0)).2 ∧ (L.l.getD k (0, 0, 0)).2.2 * (L.b.getD k (0, 0)).2 ≤ 1000) ∧
    (-1000 ≤ (L.l.getD k (0, 0, 0)).2.1 ∧ (L.l.getD k (0, 0, 0)).2.1 ≤ 1000) ∧
    ((-20000 ≤ L.pl k ∧ L.pl k ≤ 20000) ∧ (-20000 ≤ L.ph k ∧ L.ph k ≤ 20000) ∧ -20000 ≤ L.pz k ∧ L.pz k ≤ 20000) ∧ L.b.length = L.l.length ∧ 0 < L.l.length ∧ L.l.length ≤ 10 :=
  ⟨h.dlo hk, h.dhi hk, (h.lk hk).2.1, h.bd k (by omega), h.b, h.k.n.1, h.k.n.2⟩
theorem map_take {α β : Type} (f : α → β) (d : α) (l : List α) (k : Nat) (h : k < l.length) : (l.take (k + 1)).map f = (l.take k).map f ++ [f (l.getD k d)] := by
  rw [List.take_succ_eq_append_getElem h, List.map_append, List.getD_eq_getElem?_getD, List.getElem?_eq_getElem h]; rfl
abbrev w64 (n : Int) : Prop := -9223372036854775808 ≤ n ∧ n ≤ 9223372036854775807
theorem w64_i {n : Int} (h : IntKind.has .i64 n = true) : w64 n := by
  simp only [IntKind.has, IntKind.min, IntKind.max, IntKind.signed, IntKind.bits, Bool.and_eq_true, decide_eq_true_eq] at h
  simp at h
  exact ⟨by omega, by omega⟩
end Go.Pw

set_option linter.unusedSimpArgs false
set_option linter.unusedVariables false
namespace Go.Pw
open Go
/-- A feature: its range, its kind, the range of its size. -/
abbrev Ft := (Int × Int) × Int × (Int × Int)
abbrev ft0 : Ft := ((0, 0), 0, (0, 0))
def dst (a b : Ft) : Int := max (max 0 (a.1.1 - b.1.2)) (b.1.1 - a.1.2)
theorem dst_nn {a b : Ft} : 0 ≤ dst a b := by rw [dst]; omega
/-- The first row of potentials; a further row out of the one before. -/
def p0 (s : Int) : Nat → Int
  | 0 => 0
  | k + 1 => min (((k + 1 : Nat) : Int) * s) (p0 s k + s)
def pR (s : Int) (a : Ft) (B : List Ft) (i : Nat) (prev : Nat → Int) : Nat → Int
  | 0 => min (((i + 1 : Nat) : Int) * s) (prev 0 + s)
  | k + 1 => if a.2.1 = (B.getD k ft0).2.1 then min (min (min (((i + 1 + (k + 1) : Nat) : Int) * s) (prev (k + 1) + s)) (pR s a B i prev k + s)) (prev k + dst a (B.getD k ft0))
    else min (min (((i + 1 + (k + 1) : Nat) : Int) * s) (prev (k + 1) + s)) (pR s a B i prev k + s)
def pT (s : Int) (A B : List Ft) : Nat → Nat → Int
  | 0 => p0 s
  | i + 1 => pR s (A.getD i ft0) B i (pT s A B i)
section
variable {s : Int} {A B : List Ft}
theorem mul_succ' (n : Nat) (s : Int) : ((n + 1 : Nat) : Int) * s = (n : Int) * s + s := by
  rw [Int.natCast_add, Int.add_mul]; omega
theorem pT_1 : ∀ i k, pT s A B i k ≤ ((i + k : Nat) : Int) * s
  | 0, 0 => by rw [pT, p0]; simp
  | 0, k + 1 => by rw [pT, p0, Nat.zero_add]; omega
  | i + 1, 0 => by rw [pT, pR, Nat.add_zero]; omega
  | i + 1, k + 1 => by rw [pT, pR]; split <;> omega
theorem pT_2 : ∀ i k, pT s A B (i + 1) k ≤ pT s A B i k + s
  | i, 0 => by rw [pT, pR]; omega
  | i, k + 1 => by rw [pT, pR]; split <;> omega
theorem pT_3 : ∀ i k, pT s A B i (k + 1) ≤ pT s A B i k + s
  | 0, k => by rw [pT, p0]; omega
  | i + 1, k => by rw [pT, pR]; split <;> omega
theorem pT_4 {i k : Nat} (h : (A.getD i ft0).2.1 = (B.getD k ft0).2.1) : pT s A B (i + 1) (k + 1) ≤ pT s A B i k + dst (A.getD i ft0) (B.getD k ft0) := by
  rw [pT, pR, if_pos h]; omega
theorem pT_0 (hs : 0 ≤ s) : ∀ i k, 0 ≤ pT s A B i k
  | 0, 0 => by rw [pT, p0]; omega
  | 0, k + 1 => by
    have h1 := pT_0 hs 0 k
    have h2 : 0 ≤ ((k + 1 : Nat) : Int) * s := Int.mul_nonneg (by omega) hs
    rw [pT] at h1 ⊢; rw [p0]; omega
  | i + 1, 0 => by
    have h1 := pT_0 hs i 0
    have h2 : 0 ≤ ((i + 1 : Nat) : Int) * s := Int.mul_nonneg (by omega) hs
    rw [pT, pR]; omega
  | i + 1, k + 1 => by
    have h1 := pT_0 hs i (k + 1)
    have h2 := pT_0 hs (i + 1) k
    have h3 := pT_0 hs i k
    have h4 : 0 ≤ ((i + 1 + (k + 1) : Nat) : Int) * s := Int.mul_nonneg (by omega) hs
    have h5 := dst_nn (a := A.getD i ft0) (b := B.getD k ft0)
    rw [pT] at h2 ⊢; rw [pR]; split <;> omega
/-- Where a potential comes from. -/
theorem pT_5 (i k : Nat) : pT s A B i k = ((i + k : Nat) : Int) * s ∨ (∃ j, i = j + 1 ∧ pT s A B i k = pT s A B j k + s) ∨ (∃ j, k = j + 1 ∧ pT s A B i k = pT s A B i j + s) ∨
    ∃ x y, i = x + 1 ∧ k = y + 1 ∧ (A.getD x ft0).2.1 = (B.getD y ft0).2.1 ∧ pT s A B i k = pT s A B x y + dst (A.getD x ft0) (B.getD y ft0) := by
  match i, k with
  | 0, 0 => left; rw [pT, p0]; simp
  | 0, k + 1 =>
    by_cases h : pT s A B 0 (k + 1) = ((k + 1 : Nat) : Int) * s
    · left; rw [Nat.zero_add]; exact h
    · right; right; left; refine ⟨k, rfl, ?_⟩; rw [pT] at h ⊢; rw [p0] at h ⊢; omega
  | i + 1, 0 =>
    by_cases h : pT s A B (i + 1) 0 = ((i + 1 : Nat) : Int) * s
    · left; rw [Nat.add_zero]; exact h
    · right; left; refine ⟨i, rfl, ?_⟩; rw [pT, pR] at h ⊢; omega
  | i + 1, k + 1 =>
    by_cases h : pT s A B (i + 1) (k + 1) = ((i + 1 + (k + 1) : Nat) : Int) * s
    · left; exact h
    by_cases h2 : pT s A B (i + 1) (k + 1) = pT s A B i (k + 1) + s
    · right; left; exact ⟨i, rfl, h2⟩
    by_cases h3 : pT s A B (i + 1) (k + 1) = pT s A B (i + 1) k + s
    · right; right; left; exact ⟨k, rfl, h3⟩
    right; right; right
    refine ⟨i, k, rfl, rfl, ?_⟩
    rw [show pT s A B (i + 1) k = pR s (A.getD i ft0) B i (pT s A B i) k from rfl] at h3
    rw [pT, pR] at h h2 h3 ⊢
    by_cases hk : (A.getD i ft0).2.1 = (B.getD k ft0).2.1
    · rw [if_pos hk] at h h2 h3 ⊢; exact ⟨hk, by omega⟩
    · rw [if_neg hk] at h h2 h3; omega
theorem getD_drop (l : List Ft) (n i : Nat) : (l.drop n).getD i ft0 = l.getD (n + i) ft0 := by
  rw [List.getD_eq_getElem?_getD, List.getElem?_drop, ← List.getD_eq_getElem?_getD]
/-- With any first pair a match costs no less. -/
theorem pT_up {i k : Nat} (h : (A.getD i ft0).2.1 = (B.getD k ft0).2.1) : ∀ n p q, p + q ≤ n →
    pT s A B (i + 1 + p) (k + 1 + q) ≤ ((i + k : Nat) : Int) * s + dst (A.getD i ft0) (B.getD k ft0) + pT s (A.drop (i + 1)) (B.drop (k + 1)) p q
  | 0, p, q, hn => by
    have e1 : p = 0 := by omega
    have e2 : q = 0 := by omega
    subst e1; subst e2
    have h1 := pT_4 (s := s) h
    have h2 := pT_1 (s := s) (A := A) (B := B) i k
    have h3 : pT s (A.drop (i + 1)) (B.drop (k + 1)) 0 0 = 0 := rfl
    rw [Nat.add_zero (i + 1), Nat.add_zero (k + 1)]; omega
  | n + 1, p, q, hn => by
    rcases pT_5 (s := s) (A := A.drop (i + 1)) (B := B.drop (k + 1)) p q with e | ⟨j, rfl, e⟩ | ⟨j, rfl, e⟩ | ⟨x, y, rfl, rfl, hk, e⟩
    · rcases p with _ | p
      · rcases q with _ | q
        · have h1 := pT_4 (s := s) h
          have h2 := pT_1 (s := s) (A := A) (B := B) i k
          have h3 : pT s (A.drop (i + 1)) (B.drop (k + 1)) 0 0 = 0 := rfl
          rw [Nat.add_zero (i + 1), Nat.add_zero (k + 1)]; omega
        · have h1 := pT_up h n 0 q (by omega)
          have h2 := pT_1 (s := s) (A := A.drop (i + 1)) (B := B.drop (k + 1)) 0 q
          have h3 := pT_3 (s := s) (A := A) (B := B) (i + 1 + 0) (k + 1 + q)
          rw [e, Nat.zero_add, mul_succ']
          rw [Nat.zero_add] at h2
          rw [← Nat.add_assoc (k + 1) q 1]
          omega
      · have h1 := pT_up h n p q (by omega)
        have h2 := pT_1 (s := s) (A := A.drop (i + 1)) (B := B.drop (k + 1)) p q
        have h3 := pT_2 (s := s) (A := A) (B := B) (i + 1 + p) (k + 1 + q)
        rw [e, show p + 1 + q = p + q + 1 by omega, mul_succ', ← Nat.add_assoc (i + 1) p 1]
        omega
    · have h1 := pT_up h n j q (by omega)
      have h3 := pT_2 (s := s) (A := A) (B := B) (i + 1 + j) (k + 1 + q)
      rw [e, ← Nat.add_assoc (i + 1) j 1]
      omega
    · have h1 := pT_up h n p j (by omega)
      have h3 := pT_3 (s := s) (A := A) (B := B) (i + 1 + p) (k + 1 + j)
      rw [e, ← Nat.add_assoc (k + 1) j 1]
      omega
    · have h1 := pT_up h n x y (by omega)
      rw [getD_drop, getD_drop] at hk e
      have h3 := pT_4 (s := s) hk
      rw [e, ← Nat.add_assoc (i + 1) x 1, ← Nat.add_assoc (k + 1) y 1]
      omega
/-- A potential is that of no pairs, or some first pair reaches it. -/
theorem pT_low : ∀ n i k, i + k ≤ n → pT s A B i k = ((i + k : Nat) : Int) * s ∨ ∃ x y, x < i ∧ y < k ∧ (A.getD x ft0).2.1 = (B.getD y ft0).2.1 ∧
    ((x + y : Nat) : Int) * s + dst (A.getD x ft0) (B.getD y ft0) + pT s (A.drop (x + 1)) (B.drop (y + 1)) (i - x - 1) (k - y - 1) ≤ pT s A B i k
  | 0, i, k, hn => by
    have h1 : i = 0 := by omega
    have h2 : k = 0 := by omega
    subst h1; subst h2
    left; rw [pT, p0]; simp
  | n + 1, i, k, hn => by
    rcases pT_5 (s := s) (A := A) (B := B) i k with e | ⟨j, rfl, e⟩ | ⟨j, rfl, e⟩ | ⟨x, y, rfl, rfl, hk, e⟩
    · exact .inl e
    · rcases pT_low n j k (by omega) with h1 | ⟨x, y, hx, hy, hk, h1⟩
      · left; rw [e, h1, show j + 1 + k = j + k + 1 by omega, mul_succ']
      · right
        refine ⟨x, y, by omega, hy, hk, ?_⟩
        have h2 := pT_2 (s := s) (A := A.drop (x + 1)) (B := B.drop (y + 1)) (j - x - 1) (k - y - 1)
        rw [show j + 1 - x - 1 = j - x - 1 + 1 by omega, e]
        omega
    · rcases pT_low n i j (by omega) with h1 | ⟨x, y, hx, hy, hk, h1⟩
      · left; rw [e, h1, show i + (j + 1) = i + j + 1 by omega, mul_succ']
      · right
        refine ⟨x, y, hx, by omega, hk, ?_⟩
        have h2 := pT_3 (s := s) (A := A.drop (x + 1)) (B := B.drop (y + 1)) (i - x - 1) (j - y - 1)
        rw [show j + 1 - y - 1 = j - y - 1 + 1 by omega, e]
        omega
    · right
      rcases pT_low n x y (by omega) with h1 | ⟨x', y', hx, hy, hk', h1⟩
      · refine ⟨x, y, by omega, by omega, hk, ?_⟩
        rw [show x + 1 - x - 1 = 0 by omega, show y + 1 - y - 1 = 0 by omega, show pT s (A.drop (x + 1)) (B.drop (y + 1)) 0 0 = 0 from rfl, e, h1]
        omega
      · refine ⟨x', y', by omega, by omega, hk', ?_⟩
        have h2 := pT_4 (s := s) (A := A.drop (x' + 1)) (B := B.drop (y' + 1)) (i := x - x' - 1) (k := y - y' - 1) (by
          rw [getD_drop, getD_drop, show x' + 1 + (x - x' - 1) = x by omega, show y' + 1 + (y - y' - 1) = y by omega]; exact hk)
        rw [getD_drop, getD_drop, show x' + 1 + (x - x' - 1) = x by omega, show y' + 1 + (y - y' - 1) = y by omega] at h2
        rw [show x + 1 - x' - 1 = x - x' - 1 + 1 by omega, show y + 1 - y' - 1 = y - y' - 1 + 1 by omega, e]
        omega
end
/-- The cost of the best match. -/
def csT (s : Int) (A B : List Ft) : Int := pT s A B A.length B.length
def hitP (s : Int) (A B : List Ft) (i k : Nat) : Bool := decide ((A.getD i ft0).2.1 = (B.getD k ft0).2.1) && decide (((i + k : Nat) : Int) * s + dst (A.getD i ft0) (B.getD k ft0) + csT s (A.drop (i + 1)) (B.drop (k + 1)) = csT s A B)
/-- The first that there is from an index on. -/
def fsO {α : Type} (f : Nat → Option α) : Nat → Nat → Option α
  | _, 0 => none
  | j, c + 1 => match f j with
    | some x => some x
    | none => fsO f (j + 1) c
theorem fsO_none {α : Type} {f : Nat → Option α} : ∀ {c j : Nat}, fsO f j c = none → ∀ i, j ≤ i → i < j + c → f i = none
  | 0, j, _, i, h1, h2 => by omega
  | c + 1, j, h, i, h1, h2 => by
    rw [fsO] at h
    split at h
    · cases h
    · rename_i hj
      rcases Nat.eq_or_lt_of_le h1 with rfl | h3
      · exact hj
      · exact fsO_none h i h3 (by omega)
theorem fsO_some {α : Type} {f : Nat → Option α} {x : α} : ∀ {c j : Nat}, fsO f j c = some x → ∃ i, j ≤ i ∧ i < j + c ∧ f i = some x
  | 0, j, h => by cases h
  | c + 1, j, h => by
    rw [fsO] at h
    split at h
    · rename_i y hj; cases h; exact ⟨j, Nat.le_refl _, by omega, hj⟩
    · obtain ⟨i, h1, h2, h3⟩ := fsO_some h; exact ⟨i, by omega, by omega, h3⟩
def nxR (s : Int) (A B : List Ft) (i : Nat) : Option (Nat × Nat) := fsO (fun k => if hitP s A B i k = true then some (i, k) else none) 0 B.length
/-- The first pair of the best match. -/
def nxP (s : Int) (A B : List Ft) : Option (Nat × Nat) := if csT s A B = ((A.length + B.length : Nat) : Int) * s then none else fsO (nxR s A B) 0 A.length
theorem nxP_none {s : Int} {A B : List Ft} (h : nxP s A B = none) : csT s A B = ((A.length + B.length : Nat) : Int) * s := by
  rw [nxP] at h
  split at h
  · assumption
  · rename_i hc
    exfalso
    rcases pT_low (s := s) (A := A) (B := B) _ A.length B.length (Nat.le_refl _) with h1 | ⟨x, y, hx, hy, hk, h1⟩
    · exact hc h1
    · have h2 := pT_up (s := s) hk _ (A.length - x - 1) (B.length - y - 1) (Nat.le_refl _)
      rw [show x + 1 + (A.length - x - 1) = A.length by omega, show y + 1 + (B.length - y - 1) = B.length by omega] at h2
      have h3 := fsO_none (fsO_none h x (by omega) (by omega)) y (by omega) (by omega)
      split at h3
      · cases h3
      · rename_i h4
        apply h4
        rw [hitP, decide_eq_true hk, Bool.true_and, decide_eq_true_eq, csT, csT, List.length_drop, List.length_drop]
        rw [show A.length - (x + 1) = A.length - x - 1 by omega, show B.length - (y + 1) = B.length - y - 1 by omega]
        omega
theorem nxP_some {s : Int} {A B : List Ft} {i k : Nat} (h : nxP s A B = some (i, k)) : i < A.length ∧ k < B.length ∧ (A.getD i ft0).2.1 = (B.getD k ft0).2.1 ∧
    ((i + k : Nat) : Int) * s + dst (A.getD i ft0) (B.getD k ft0) + csT s (A.drop (i + 1)) (B.drop (k + 1)) = csT s A B := by
  rw [nxP] at h
  split at h
  · cases h
  · obtain ⟨i', h1, h2, h3⟩ := fsO_some h
    obtain ⟨k', h4, h5, h6⟩ := fsO_some h3
    split at h6
    · rename_i h7
      cases h6
      rw [hitP, Bool.and_eq_true, decide_eq_true_eq, decide_eq_true_eq] at h7
      exact ⟨by omega, by omega, h7.1, h7.2⟩
    · cases h6
/-- The pairs of the best match. -/
def mtP (s : Int) : Nat → List Ft → List Ft → List (Nat × Nat)
  | 0, _, _ => []
  | n + 1, A, B => match nxP s A B with
    | none => []
    | some (i, k) => (i, k) :: (mtP s n (A.drop (i + 1)) (B.drop (k + 1))).map fun p => (i + 1 + p.1, k + 1 + p.2)
def sumD (A B : List Ft) : List (Nat × Nat) → Int
  | [] => 0
  | p :: r => dst (A.getD p.1 ft0) (B.getD p.2 ft0) + sumD A B r
theorem sumD_map {A B : List Ft} {i k : Nat} : ∀ (l : List (Nat × Nat)), sumD A B (l.map fun p => (i + 1 + p.1, k + 1 + p.2)) = sumD (A.drop (i + 1)) (B.drop (k + 1)) l
  | [] => rfl
  | p :: r => by rw [List.map_cons, sumD, sumD, sumD_map r, getD_drop, getD_drop]
theorem mtP_cost {s : Int} : ∀ (n : Nat) (A B : List Ft), A.length ≤ n → csT s A B = ((A.length : Int) + B.length - 2 * (mtP s n A B).length) * s + sumD A B (mtP s n A B)
  | 0, A, B, hn => by
    have hA : A = [] := List.eq_nil_of_length_eq_zero (by omega)
    subst hA
    rw [mtP, sumD, csT]
    have h := pT_low (s := s) (A := []) (B := B) _ 0 B.length (Nat.le_refl _)
    rcases h with h | ⟨x, _, hx, _⟩
    · rw [List.length_nil, h]; simp
    · omega
  | n + 1, A, B, hn => by
    rw [mtP]
    cases h : nxP s A B with
    | none => simp only [sumD, List.length_nil]; rw [nxP_none h]; push_cast; simp
    | some p =>
      obtain ⟨i, k⟩ := p
      obtain ⟨h1, h2, h3, h4⟩ := nxP_some h
      have ih := mtP_cost (s := s) n (A.drop (i + 1)) (B.drop (k + 1)) (by rw [List.length_drop]; omega)
      rw [← h4, ih]
      simp only [sumD, sumD_map, List.length_cons, List.length_map, List.length_drop]
      generalize (mtP s n (A.drop (i + 1)) (B.drop (k + 1))).length = m
      rw [Int.ofNat_sub (by omega : i + 1 ≤ A.length), Int.ofNat_sub (by omega : k + 1 ≤ B.length)]
      have e : ((A.length : Int) + B.length - 2 * ((m + 1 : Nat) : Int)) * s = ((i + k : Nat) : Int) * s + ((A.length : Int) - ((i + 1 : Nat) : Int) + ((B.length : Int) - ((k + 1 : Nat) : Int)) - 2 * (m : Int)) * s := by
        rw [← Int.add_mul]
        congr 1
        omega
      rw [e]
      omega
/-- The pairs ascend, lie in both surveys, and have one kind. -/
structure PrOk (A B : List Ft) (l : List (Nat × Nat)) : Prop where
  asc : l.Pairwise fun p q => p.1 < q.1 ∧ p.2 < q.2
  rng : ∀ p ∈ l, p.1 < A.length ∧ p.2 < B.length ∧ (A.getD p.1 ft0).2.1 = (B.getD p.2 ft0).2.1
theorem mtP_ok {s : Int} : ∀ (n : Nat) (A B : List Ft), PrOk A B (mtP s n A B)
  | 0, A, B => ⟨.nil, fun p h => by cases h⟩
  | n + 1, A, B => by
    rw [mtP]
    cases h : nxP s A B with
    | none => exact ⟨.nil, fun p h => by cases h⟩
    | some p =>
      obtain ⟨i, k⟩ := p
      obtain ⟨h1, h2, h3, h4⟩ := nxP_some h
      obtain ⟨h5, h6⟩ := mtP_ok (s := s) n (A.drop (i + 1)) (B.drop (k + 1))
      refine ⟨List.pairwise_cons.2 ⟨fun q hq => ?_, ?_⟩, fun q hq => ?_⟩
      · obtain ⟨r, hr, rfl⟩ := List.mem_map.1 hq
        simp only; omega
      · rw [List.pairwise_map]
        exact h5.imp fun h => by simp only; omega
      · rcases List.mem_cons.1 hq with rfl | hq
        · exact ⟨h1, h2, h3⟩
        · obtain ⟨r, hr, rfl⟩ := List.mem_map.1 hq
          obtain ⟨h7, h8, h9⟩ := h6 r hr
          rw [List.length_drop] at h7 h8
          rw [getD_drop, getD_drop] at h9
          exact ⟨by simp only; omega, by simp only; omega, h9⟩
end Go.Pw

set_option linter.unusedVariables false
set_option maxHeartbeats 2000000
set_option maxRecDepth 100000
namespace Go.Pw
open Go Go.Proofs
/-- moonpool/moonpooltop.surveyShown -/
def lc5 : LCode :=
  (.seq (.region [⟨some 0, .mv (.const (.bool false)), none⟩]) (.seq (.region [⟨some 6, .call (.func 29) [], none⟩, ⟨some 7, .call (.func 28) [(.tmp 6), (.const (.int .i64 4))],
    none⟩, ⟨some 5, .mv (.tmp 7), none⟩, ⟨some 8, .ext (.tmp 5) 0, none⟩, ⟨some 9, .ext (.tmp 5) 1, none⟩, ⟨some 1, .mv (.tmp 8), none⟩, ⟨some 2, .mv (.tmp 9), none⟩]) (.seq
    (.region [⟨some 11, .call (.func 30) [], none⟩, ⟨some 12, .call (.func 31) [], none⟩, ⟨some 13, .call (.func 10) [(.tmp 11), (.tmp 12), (.const (.int .i64 5))], none⟩, ⟨some 10,
    .mv (.tmp 13), none⟩, ⟨some 14, .ext (.tmp 10) 0, none⟩, ⟨some 15, .ext (.tmp 10) 1, none⟩, ⟨some 3, .mv (.tmp 14), none⟩, ⟨some 4, .mv (.tmp 15), none⟩]) (.seq (.region [⟨some
    16, .mv (.tmp 2), none⟩, ⟨some 17, .bin .eql (.tmp 16) (.const (.int .i64 0)), none⟩, ⟨some 18, .mv (.tmp 17), none⟩, ⟨some 19, .mv (.tmp 1), some (18, true)⟩, ⟨some 20, .build
    [(.int .i64 0), (.int .i64 0)] [(0, 1, (.const (.int .i64 1))), (1, 1, (.const (.int .i64 1)))], some (18, true)⟩, ⟨some 21, .lit false 31 2 [(.tmp 20)], some (18, true)⟩, ⟨some
    22, .call (.func 32) [(.tmp 19), (.tmp 21)], some (18, true)⟩, ⟨some 23, .pick (.tmp 18) (.tmp 22) (.const (.bool false)), none⟩, ⟨some 24, .mv (.tmp 23), none⟩, ⟨some 25, .mv
    (.tmp 4), some (24, true)⟩, ⟨some 26, .bin .eql (.tmp 25) (.const (.int .i64 0)), some (24, true)⟩, ⟨some 27, .pick (.tmp 24) (.tmp 26) (.const (.bool false)), none⟩, ⟨some 28,
    .mv (.tmp 27), none⟩, ⟨some 29, .mv (.tmp 3), some (28, true)⟩, ⟨some 30, .len (.tmp 29), some (28, true)⟩, ⟨some 31, .bin .eql (.tmp 30) (.const (.int .i64 2)), some (28,
    true)⟩, ⟨some 32, .pick (.tmp 28) (.tmp 31) (.const (.bool false)), none⟩, ⟨some 0, .mv (.tmp 32), none⟩]) .ret))))
theorem low5 : lowF Try.prog [] Try.f5 = some (33, lc5.strip, [.tmp 0]) := by kernel_rfl
theorem fn5 : FnOk Try.prog 5 33 lc5 [.tmp 0] := ⟨Try.call5, [], _, Try.func5, low5⟩
/-- moonpool/moonpoolbase.Within -/
def lc6 : LCode :=
  (.seq (.region [⟨some 6, .mv (.const (.bool false)), none⟩]) (.seq (.region [⟨some 7, .mv (.tmp 1), none⟩, ⟨some 8, .mv (.tmp 0), none⟩, ⟨some 9, .bin .leq (.tmp 7) (.tmp 8),
    none⟩, ⟨some 10, .mv (.tmp 9), none⟩, ⟨some 11, .mv (.tmp 0), some (10, true)⟩, ⟨some 12, .mv (.tmp 2), some (10, true)⟩, ⟨some 13, .bin .leq (.tmp 11) (.tmp 12), some (10,
    true)⟩, ⟨some 14, .pick (.tmp 10) (.tmp 13) (.const (.bool false)), none⟩, ⟨some 6, .mv (.tmp 14), none⟩]) .ret))
theorem low6 : lowF Try.prog [] Try.f6 = some (15, lc6.strip, [.tmp 6]) := by kernel_rfl
theorem fn6 : FnOk Try.prog 6 15 lc6 [.tmp 6] := ⟨Try.call6, [], _, Try.func6, low6⟩
/-- moonpool/moonpoolbase.Mod -/
def lc7 : LCode :=
  (.seq (.region [⟨some 4, .mv (.const (.int .i64 0)), none⟩]) (.seq (.region [⟨some 5, .mv (.tmp 0), none⟩, ⟨some 6, .mv (.tmp 1), none⟩, ⟨some 7, .bin .rem (.tmp 5) (.tmp 6),
    none⟩, ⟨some 0, .mv (.tmp 7), none⟩]) (.seq (.seq (.region [⟨some 8, .mv (.tmp 0), none⟩, ⟨some 9, .bin .lss (.tmp 8) (.const (.int .i64 0)), none⟩]) (.cond (.tmp 9) (.region
    [⟨some 10, .mv (.tmp 0), none⟩, ⟨some 11, .mv (.tmp 1), none⟩, ⟨some 12, .bin .add (.tmp 10) (.tmp 11), none⟩, ⟨some 0, .mv (.tmp 12), none⟩]) .skip)) (.seq (.region [⟨some 13,
    .mv (.tmp 0), none⟩, ⟨some 4, .mv (.tmp 13), none⟩]) .ret))))
theorem low7 : lowF Try.prog [] Try.f7 = some (14, lc7.strip, [.tmp 4]) := by kernel_rfl
theorem fn7 : FnOk Try.prog 7 14 lc7 [.tmp 4] := ⟨Try.call7, [], _, Try.func7, low7⟩
/-- moonpool/survey.MatchOf -/
def lc8 : LCode :=
  (.seq (.region [⟨some 6, .alloc [(.slice none 0 0), (.slice none 0 0)], none⟩, ⟨some 7, .mv (.const (.int .i64 0)), none⟩, ⟨some 8, .mv (.const (.int .i64 0)), none⟩]) (.seq
    (.region [⟨some 12, .mv (.tmp 0), none⟩, ⟨some 13, .mv (.tmp 1), none⟩, ⟨some 14, .mv (.tmp 2), none⟩, ⟨some 15, .call (.func 33) [(.tmp 12), (.tmp 13), (.tmp 14)], none⟩, ⟨some
    11, .mv (.tmp 15), none⟩, ⟨some 16, .ext (.tmp 11) 0, none⟩, ⟨some 17, .ext (.tmp 11) 1, none⟩, ⟨some 9, .alloc [(.slice none 0 0), (.slice none 0 0), (.int .i64 0)], none⟩,
    ⟨none, .store 3 (.tmp 9) (.tmp 16), none⟩, ⟨some 10, .mv (.tmp 17), none⟩]) (.seq (.seq (.region [⟨some 18, .mv (.tmp 10), none⟩, ⟨some 19, .bin .neq (.tmp 18) (.const (.int
    .i64 0)), none⟩]) (.cond (.tmp 19) (.seq (.region [⟨some 20, .build [(.slice none 0 0), (.slice none 0 0)] [], none⟩, ⟨some 21, .mv (.tmp 10), none⟩, ⟨none, .store 2 (.tmp 6)
    (.tmp 20), none⟩, ⟨some 7, .mv (.const (.int .i64 0)), none⟩, ⟨some 8, .mv (.tmp 21), none⟩]) .ret) .skip)) (.seq (.regionD [⟨some 22, .load true 3 (.tmp 9), none⟩, ⟨some 23,
    .call (.func 34) [(.tmp 22)], none⟩, ⟨some 24, .load true 3 (.tmp 9), none⟩, ⟨some 25, .call (.func 35) [(.tmp 24)], none⟩, ⟨some 26, .build [(.slice none 0 0), (.slice none 0
    0)] [(0, 1, (.tmp 23)), (1, 1, (.tmp 25))], none⟩, ⟨some 27, .load true 3 (.tmp 9), none⟩, ⟨some 28, .call (.func 36) [(.tmp 27)], none⟩, ⟨none, .store 2 (.tmp 6) (.tmp 26),
    none⟩, ⟨some 7, .mv (.tmp 28), none⟩, ⟨some 8, .mv (.const (.int .i64 0)), none⟩] [0, 1, 0, 7, 15, 0, 47, 127, 255, 511] [0, 1, 2, 3, 4, 5, 6, 7, 8, 9]) .ret))))
theorem low8 : lowF Try.prog [] Try.f8 = some (29, lc8.strip, [.cell 6 true 2, .tmp 7, .tmp 8]) := by kernel_rfl
theorem fn8 : FnOk Try.prog 8 29 lc8 [.cell 6 true 2, .tmp 7, .tmp 8] := ⟨Try.call8, [], _, Try.func8, low8⟩
/-- moonpool/moonpoolref09.CopyFeatures -/
def lc9 : LCode :=
  (.seq (.region [⟨some 2, .mv (.const (.slice none 0 0)), none⟩]) (.seq (.region [⟨some 3, .lit false 33 5 [], none⟩, ⟨some 4, .mv (.tmp 0), none⟩, ⟨some 5, .append false 33 5 40
    (.tmp 3) (.tmp 4), none⟩, ⟨some 2, .mv (.tmp 5), none⟩]) .ret))
theorem low9 : lowF Try.prog [] Try.f9 = some (6, lc9.strip, [.tmp 2]) := by kernel_rfl
theorem fn9 : FnOk Try.prog 9 6 lc9 [.tmp 2] := ⟨Try.call9, [], _, Try.func9, low9⟩
/-- moonpool/survey.ChangesOf -/
def lc10 : LCode :=
  (.seq (.region [⟨some 6, .mv (.const (.slice none 0 0)), none⟩, ⟨some 7, .mv (.const (.int .i64 0)), none⟩]) (.seq (.region [⟨some 22, .mv (.tmp 0), none⟩, ⟨some 23, .mv (.tmp 1),
    none⟩, ⟨some 24, .mv (.tmp 2), none⟩, ⟨some 25, .call (.func 33) [(.tmp 22), (.tmp 23), (.tmp 24)], none⟩, ⟨some 21, .mv (.tmp 25), none⟩, ⟨some 26, .ext (.tmp 21) 0, none⟩,
    ⟨some 27, .ext (.tmp 21) 1, none⟩, ⟨some 8, .alloc [(.slice none 0 0), (.slice none 0 0), (.int .i64 0)], none⟩, ⟨none, .store 3 (.tmp 8) (.tmp 26), none⟩, ⟨some 9, .mv (.tmp
    27), none⟩]) (.seq (.seq (.region [⟨some 28, .mv (.tmp 9), none⟩, ⟨some 29, .bin .neq (.tmp 28) (.const (.int .i64 0)), none⟩]) (.cond (.tmp 29) (.seq (.region [⟨some 30, .mv
    (.tmp 9), none⟩, ⟨some 6, .mv (.const (.slice none 0 0)), none⟩, ⟨some 7, .mv (.tmp 30), none⟩]) .ret) .skip)) (.seq (.region [⟨some 31, .mkmap 1, none⟩, ⟨some 32, .mkmap 2,
    none⟩, ⟨some 10, .mv (.tmp 31), none⟩, ⟨some 11, .mv (.tmp 32), none⟩]) (.seq (.seq (.region [⟨some 33, .load true 3 (.tmp 8), none⟩, ⟨some 34, .call (.func 34) [(.tmp 33)],
    none⟩, ⟨some 35, .len (.tmp 34), none⟩, ⟨some 36, .mv (.const (.int .i64 0)), none⟩]) (.block 0 (.loop (.seq (.region [⟨some 37, .bin .lss (.tmp 36) (.tmp 35), none⟩]) (.seq
    (.cond (.tmp 37) .skip (.exit 0)) (.seq (.block 1 (.seq (.region [⟨some 38, .idx 2 (.tmp 34) (.tmp 36), none⟩, ⟨some 39, .load true 2 (.tmp 38), none⟩, ⟨some 13, .alloc [(.int
    .i64 0), (.int .i64 0)], none⟩, ⟨none, .store 2 (.tmp 13) (.tmp 39), none⟩]) (.regionD [⟨some 40, .mv (.tmp 10), none⟩, ⟨some 41, .idxA 1 2 (.tmp 13) (.const (.int .i64 0)),
    none⟩, ⟨some 42, .load false 1 (.tmp 41), none⟩, ⟨some 43, .mv (.tmp 11), none⟩, ⟨some 44, .idxA 1 2 (.tmp 13) (.const (.int .i64 1)), none⟩, ⟨some 45, .load false 1 (.tmp 44),
    none⟩, ⟨some 46, .idxA 1 2 (.tmp 13) (.const (.int .i64 1)), none⟩, ⟨some 47, .load false 1 (.tmp 46), none⟩, ⟨none, .mset 1 (.tmp 40) (.tmp 42) (.tmp 47), none⟩, ⟨none, .mset 2
    (.tmp 43) (.tmp 45) (.const (.bool true)), none⟩] [0, 0, 2, 0, 0, 16, 0, 64, 199, 511] [0, 1, 2, 3, 4, 5, 6, 7, 8, 9]))) (.region [⟨some 48, .bin .add (.tmp 36) (.const (.int
    .i64 1)), none⟩, ⟨some 36, .mv (.tmp 48), none⟩]))))))) (.seq (.region [⟨some 14, .mv (.const (.slice none 0 0)), none⟩]) (.seq (.seq (.region [⟨some 49, .mv (.tmp 0), none⟩,
    ⟨some 50, .len (.tmp 49), none⟩, ⟨some 51, .mv (.const (.int .i64 0)), none⟩]) (.block 2 (.loop (.seq (.region [⟨some 52, .bin .lss (.tmp 51) (.tmp 50), none⟩]) (.seq (.cond
    (.tmp 52) .skip (.exit 2)) (.seq (.block 3 (.seq (.region [⟨some 53, .mv (.tmp 51), none⟩, ⟨some 54, .idx 5 (.tmp 49) (.tmp 51), none⟩, ⟨some 55, .load true 5 (.tmp 54), none⟩,
    ⟨some 16, .alloc [(.int .i64 0), (.int .i64 0), (.int .i64 0), (.int .i64 0), (.int .i64 0)], none⟩, ⟨some 15, .mv (.tmp 53), none⟩, ⟨none, .store 5 (.tmp 16) (.tmp 55), none⟩])
    (.seq (.region [⟨some 57, .mv (.tmp 10), none⟩, ⟨some 58, .mv (.tmp 15), none⟩, ⟨some 59, .mget 1 true (.tmp 57) (.tmp 58), none⟩, ⟨some 56, .mv (.tmp 59), none⟩, ⟨some 60, .ext
    (.tmp 56) 0, none⟩, ⟨some 61, .ext (.tmp 56) 1, none⟩, ⟨some 17, .mv (.tmp 60), none⟩, ⟨some 18, .mv (.tmp 61), none⟩]) (.seq (.seq (.region [⟨some 62, .mv (.tmp 18), none⟩,
    ⟨some 63, .un .not (.tmp 62), none⟩]) (.cond (.tmp 63) (.seq (.region [⟨some 64, .mv (.tmp 14), none⟩, ⟨some 65, .mv (.tmp 15), none⟩, ⟨some 66, .build [(.int .i64 0), (.int
    .i64 0), (.int .i64 0), (.int .i64 0)] [(0, 1, (.const (.int .i64 1))), (1, 1, (.tmp 65)), (2, 1, (.const (.int .i64 (-1))))], none⟩, ⟨some 67, .lit false 50 4 [(.tmp 66)],
    none⟩, ⟨some 68, .append true 50 4 32 (.tmp 64) (.tmp 67), none⟩, ⟨some 14, .mv (.tmp 68), none⟩]) (.exit 3)) .skip)) (.seq (.region [⟨some 69, .mv (.tmp 1), none⟩, ⟨some 70,
    .mv (.tmp 17), none⟩, ⟨some 71, .idx 5 (.tmp 69) (.tmp 70), none⟩, ⟨some 72, .fld 3 (.tmp 71), none⟩, ⟨some 73, .load true 2 (.tmp 72), none⟩, ⟨some 19, .alloc [(.int .i64 0),
    (.int .i64 0)], none⟩, ⟨none, .store 2 (.tmp 19) (.tmp 73), none⟩]) (.block 4 (.seq (.region [⟨some 75, .fld 0 (.tmp 19), none⟩, ⟨some 76, .load false 1 (.tmp 75), none⟩, ⟨some
    77, .fld 3 (.tmp 16), none⟩, ⟨some 78, .fld 1 (.tmp 77), none⟩, ⟨some 79, .load false 1 (.tmp 78), none⟩, ⟨some 80, .bin .gtr (.tmp 76) (.tmp 79), none⟩, ⟨some 74, .mv (.tmp
    80), none⟩]) (.cond (.tmp 74) (.region [⟨some 81, .mv (.tmp 14), none⟩, ⟨some 82, .mv (.tmp 15), none⟩, ⟨some 83, .mv (.tmp 17), none⟩, ⟨some 84, .fld 0 (.tmp 19), none⟩, ⟨some
    85, .load false 1 (.tmp 84), none⟩, ⟨some 86, .fld 3 (.tmp 16), none⟩, ⟨some 87, .fld 1 (.tmp 86), none⟩, ⟨some 88, .load false 1 (.tmp 87), none⟩, ⟨some 89, .bin .sub (.tmp 85)
    (.tmp 88), none⟩, ⟨some 90, .build [(.int .i64 0), (.int .i64 0), (.int .i64 0), (.int .i64 0)] [(0, 1, (.const (.int .i64 2))), (1, 1, (.tmp 82)), (2, 1, (.tmp 83)), (3, 1,
    (.tmp 89))], none⟩, ⟨some 91, .lit false 50 4 [(.tmp 90)], none⟩, ⟨some 92, .append true 50 4 32 (.tmp 81) (.tmp 91), none⟩, ⟨some 14, .mv (.tmp 92), none⟩]) (.seq (.region
    [⟨some 94, .fld 1 (.tmp 19), none⟩, ⟨some 95, .load false 1 (.tmp 94), none⟩, ⟨some 96, .fld 3 (.tmp 16), none⟩, ⟨some 97, .fld 0 (.tmp 96), none⟩, ⟨some 98, .load false 1 (.tmp
    97), none⟩, ⟨some 99, .bin .lss (.tmp 95) (.tmp 98), none⟩, ⟨some 93, .mv (.tmp 99), none⟩]) (.cond (.tmp 93) (.region [⟨some 100, .mv (.tmp 14), none⟩, ⟨some 101, .mv (.tmp
    15), none⟩, ⟨some 102, .mv (.tmp 17), none⟩, ⟨some 103, .fld 3 (.tmp 16), none⟩, ⟨some 104, .fld 0 (.tmp 103), none⟩, ⟨some 105, .load false 1 (.tmp 104), none⟩, ⟨some 106, .fld
    1 (.tmp 19), none⟩, ⟨some 107, .load false 1 (.tmp 106), none⟩, ⟨some 108, .bin .sub (.tmp 105) (.tmp 107), none⟩, ⟨some 109, .build [(.int .i64 0), (.int .i64 0), (.int .i64
    0), (.int .i64 0)] [(0, 1, (.const (.int .i64 3))), (1, 1, (.tmp 101)), (2, 1, (.tmp 102)), (3, 1, (.tmp 108))], none⟩, ⟨some 110, .lit false 50 4 [(.tmp 109)], none⟩, ⟨some
    111, .append true 50 4 32 (.tmp 100) (.tmp 110), none⟩, ⟨some 14, .mv (.tmp 111), none⟩]) .skip)))))))))) (.region [⟨some 112, .bin .add (.tmp 51) (.const (.int .i64 1)), none⟩,
    ⟨some 51, .mv (.tmp 112), none⟩]))))))) (.seq (.seq (.region [⟨some 113, .mv (.tmp 1), none⟩, ⟨some 114, .len (.tmp 113), none⟩, ⟨some 115, .mv (.const (.int .i64 0)), none⟩])
    (.block 5 (.loop (.seq (.region [⟨some 116, .bin .lss (.tmp 115) (.tmp 114), none⟩]) (.seq (.cond (.tmp 116) .skip (.exit 5)) (.seq (.block 6 (.seq (.region [⟨some 117, .mv
    (.tmp 115), none⟩, ⟨some 20, .mv (.tmp 117), none⟩]) (.seq (.region [⟨some 118, .mv (.tmp 11), none⟩, ⟨some 119, .mv (.tmp 20), none⟩, ⟨some 120, .mget 2 false (.tmp 118) (.tmp
    119), none⟩, ⟨some 121, .un .not (.tmp 120), none⟩]) (.cond (.tmp 121) (.region [⟨some 122, .mv (.tmp 14), none⟩, ⟨some 123, .mv (.tmp 20), none⟩, ⟨some 124, .build [(.int .i64
    0), (.int .i64 0), (.int .i64 0), (.int .i64 0)] [(0, 1, (.const (.int .i64 0))), (1, 1, (.const (.int .i64 (-1)))), (2, 1, (.tmp 123))], none⟩, ⟨some 125, .lit false 50 4
    [(.tmp 124)], none⟩, ⟨some 126, .append true 50 4 32 (.tmp 122) (.tmp 125), none⟩, ⟨some 14, .mv (.tmp 126), none⟩]) .skip)))) (.region [⟨some 127, .bin .add (.tmp 115) (.const
    (.int .i64 1)), none⟩, ⟨some 115, .mv (.tmp 127), none⟩]))))))) (.seq (.region [⟨some 128, .mv (.tmp 14), none⟩, ⟨some 6, .mv (.tmp 128), none⟩, ⟨some 7, .mv (.const (.int .i64
    0)), none⟩]) .ret)))))))))
theorem low10 : lowF Try.prog [68, 92, 111, 126] Try.f10 = some (129, lc10.strip, [.tmp 6, .tmp 7]) := by kernel_rfl
theorem fn10 : FnOk Try.prog 10 129 lc10 [.tmp 6, .tmp 7] := ⟨Try.call10, [68, 92, 111, 126], _, Try.func10, low10⟩
/-- moonpool/moonpoolref09.PairsErr -/
def lc11 : LCode :=
  (.seq (.region [⟨some 6, .mv (.const (.int .i64 0)), none⟩]) (.seq (.seq (.region [⟨some 7, .mv (.const (.int .i64 0)), none⟩]) (.block 0 (.loop (.seq (.seq (.region [⟨some 9, .mv
    (.tmp 7), none⟩, ⟨some 10, .mv (.tmp 2), none⟩, ⟨some 11, .len (.tmp 10), none⟩, ⟨some 12, .bin .lss (.tmp 9) (.tmp 11), none⟩]) (.cond (.tmp 12) .skip (.exit 0))) (.seq (.block
    1 (.seq (.region [⟨some 15, .mv (.tmp 2), none⟩, ⟨some 16, .mv (.tmp 7), none⟩, ⟨some 17, .idx 2 (.tmp 15) (.tmp 16), none⟩, ⟨some 18, .load true 2 (.tmp 17), none⟩, ⟨some 8,
    .alloc [(.int .i64 0), (.int .i64 0)], none⟩, ⟨none, .store 2 (.tmp 8) (.tmp 18), none⟩]) (.seq (.seq (.region [⟨some 19, .idxA 1 2 (.tmp 8) (.const (.int .i64 0)), none⟩, ⟨some
    20, .load false 1 (.tmp 19), none⟩, ⟨some 21, .mv (.tmp 0), none⟩, ⟨some 22, .len (.tmp 21), none⟩, ⟨some 23, .bin .sub (.tmp 22) (.const (.int .i64 1)), none⟩, ⟨some 24, .call
    (.func 6) [(.tmp 20), (.const (.int .i64 0)), (.tmp 23)], none⟩, ⟨some 25, .un .not (.tmp 24), none⟩, ⟨some 26, .mv (.tmp 25), none⟩, ⟨some 27, .idxA 1 2 (.tmp 8) (.const (.int
    .i64 1)), some (26, false)⟩, ⟨some 28, .load false 1 (.tmp 27), some (26, false)⟩, ⟨some 29, .mv (.tmp 1), some (26, false)⟩, ⟨some 30, .len (.tmp 29), some (26, false)⟩, ⟨some
    31, .bin .sub (.tmp 30) (.const (.int .i64 1)), some (26, false)⟩, ⟨some 32, .call (.func 6) [(.tmp 28), (.const (.int .i64 0)), (.tmp 31)], some (26, false)⟩, ⟨some 33, .un
    .not (.tmp 32), some (26, false)⟩, ⟨some 34, .pick (.tmp 26) (.const (.bool true)) (.tmp 33), none⟩]) (.cond (.tmp 34) (.seq (.region [⟨some 6, .mv (.const (.int .i64 6)),
    none⟩]) .ret) .skip)) (.seq (.seq (.regionD [⟨some 35, .mv (.tmp 7), none⟩, ⟨some 36, .bin .gtr (.tmp 35) (.const (.int .i64 0)), none⟩, ⟨some 37, .mv (.tmp 36), none⟩, ⟨some
    38, .idxA 1 2 (.tmp 8) (.const (.int .i64 0)), some (37, true)⟩, ⟨some 39, .load false 1 (.tmp 38), some (37, true)⟩, ⟨some 40, .mv (.tmp 2), some (37, true)⟩, ⟨some 41, .mv
    (.tmp 7), some (37, true)⟩, ⟨some 42, .bin .sub (.tmp 41) (.const (.int .i64 1)), some (37, true)⟩, ⟨some 43, .idx 2 (.tmp 40) (.tmp 42), some (37, true)⟩, ⟨some 44, .idxA 1 2
    (.tmp 43) (.const (.int .i64 0)), some (37, true)⟩, ⟨some 45, .load false 1 (.tmp 44), some (37, true)⟩, ⟨some 46, .bin .leq (.tmp 39) (.tmp 45), some (37, true)⟩, ⟨some 47, .mv
    (.tmp 46), some (37, true)⟩, ⟨some 48, .idxA 1 2 (.tmp 8) (.const (.int .i64 1)), some (47, false)⟩, ⟨some 49, .load false 1 (.tmp 48), some (47, false)⟩, ⟨some 50, .mv (.tmp
    2), some (47, false)⟩, ⟨some 51, .mv (.tmp 7), some (47, false)⟩, ⟨some 52, .bin .sub (.tmp 51) (.const (.int .i64 1)), some (47, false)⟩, ⟨some 53, .idx 2 (.tmp 50) (.tmp 52),
    some (47, false)⟩, ⟨some 54, .idxA 1 2 (.tmp 53) (.const (.int .i64 1)), some (47, false)⟩, ⟨some 55, .load false 1 (.tmp 54), some (47, false)⟩, ⟨some 56, .bin .leq (.tmp 49)
    (.tmp 55), some (47, false)⟩, ⟨some 57, .pick (.tmp 47) (.const (.bool true)) (.tmp 56), some (37, true)⟩, ⟨some 58, .pick (.tmp 37) (.tmp 57) (.const (.bool false)), none⟩] [0,
    1, 3, 7, 15, 7, 7, 71, 231, 487, 999, 2047, 4095, 8191, 16383, 8191, 8191, 73727, 237567, 499711, 1023999, 2097151, 4194303, 8388607] [0, 1, 2, 3, 4, 5, 6, 7, 8, 9, 10, 11, 12,
    13, 14, 15, 16, 17, 18, 19, 20, 21, 22, 23]) (.cond (.tmp 58) (.seq (.region [⟨some 6, .mv (.const (.int .i64 9)), none⟩]) .ret) .skip)) (.seq (.regionD [⟨some 59, .mv (.tmp 0),
    none⟩, ⟨some 60, .idxA 1 2 (.tmp 8) (.const (.int .i64 0)), none⟩, ⟨some 61, .load false 1 (.tmp 60), none⟩, ⟨some 62, .idx 5 (.tmp 59) (.tmp 61), none⟩, ⟨some 63, .fld 2 (.tmp
    62), none⟩, ⟨some 64, .load false 1 (.tmp 63), none⟩, ⟨some 65, .mv (.tmp 1), none⟩, ⟨some 66, .idxA 1 2 (.tmp 8) (.const (.int .i64 1)), none⟩, ⟨some 67, .load false 1 (.tmp
    66), none⟩, ⟨some 68, .idx 5 (.tmp 65) (.tmp 67), none⟩, ⟨some 69, .fld 2 (.tmp 68), none⟩, ⟨some 70, .load false 1 (.tmp 69), none⟩, ⟨some 71, .bin .neq (.tmp 64) (.tmp 70),
    none⟩] [0, 0, 2, 7, 15, 31, 0, 0, 128, 448, 960, 1984, 4095] [0, 1, 2, 3, 4, 5, 6, 7, 8, 9, 10, 11, 12]) (.cond (.tmp 71) (.seq (.region [⟨some 6, .mv (.const (.int .i64 15)),
    none⟩]) .ret) .skip)))))) (.region [⟨some 13, .mv (.tmp 7), none⟩, ⟨some 14, .bin .add (.tmp 13) (.const (.int .i64 1)), none⟩, ⟨some 7, .mv (.tmp 14), none⟩])))))) (.seq
    (.region [⟨some 6, .mv (.const (.int .i64 0)), none⟩]) .ret)))
theorem low11 : lowF Try.prog [] Try.f11 = some (72, lc11.strip, [.tmp 6]) := by kernel_rfl
theorem fn11 : FnOk Try.prog 11 72 lc11 [.tmp 6] := ⟨Try.call11, [], _, Try.func11, low11⟩
/-- moonpool/survey.CheckMatch -/
def lc12 : LCode :=
  (.seq (.region [⟨some 4, .box (.tmp 0), none⟩, ⟨some 5, .box (.tmp 1), none⟩, ⟨some 7, .boxS (.tmp 3), none⟩, ⟨some 8, .mv (.const (.int .i64 0)), none⟩, ⟨some 9, .mv (.const
    (.int .i64 0)), none⟩]) (.seq (.region [⟨some 18, .load false 1 (.tmp 4), none⟩, ⟨some 19, .load false 1 (.tmp 5), none⟩, ⟨some 20, .mv (.tmp 2), none⟩, ⟨some 21, .call (.func
    33) [(.tmp 18), (.tmp 19), (.tmp 20)], none⟩, ⟨some 17, .mv (.tmp 21), none⟩, ⟨some 22, .ext (.tmp 17) 0, none⟩, ⟨some 23, .ext (.tmp 17) 1, none⟩, ⟨some 10, .alloc [(.slice
    none 0 0), (.slice none 0 0), (.int .i64 0)], none⟩, ⟨none, .store 3 (.tmp 10) (.tmp 22), none⟩, ⟨some 11, .mv (.tmp 23), none⟩]) (.seq (.seq (.region [⟨some 24, .mv (.tmp 11),
    none⟩, ⟨some 25, .bin .neq (.tmp 24) (.const (.int .i64 0)), none⟩]) (.cond (.tmp 25) (.seq (.region [⟨some 26, .mv (.tmp 11), none⟩, ⟨some 8, .mv (.const (.int .i64 0)), none⟩,
    ⟨some 9, .mv (.tmp 26), none⟩]) .ret) .skip)) (.seq (.region [⟨some 27, .load false 1 (.tmp 4), none⟩, ⟨some 28, .len (.tmp 27), none⟩, ⟨some 29, .load false 1 (.tmp 5), none⟩,
    ⟨some 30, .len (.tmp 29), none⟩, ⟨some 31, .bin .add (.tmp 28) (.tmp 30), none⟩, ⟨some 32, .fld 0 (.tmp 7), none⟩, ⟨some 33, .load false 1 (.tmp 32), none⟩, ⟨some 34, .len (.tmp
    33), none⟩, ⟨some 35, .bin .mul (.const (.int .i64 2)) (.tmp 34), none⟩, ⟨some 36, .bin .sub (.tmp 31) (.tmp 35), none⟩, ⟨some 37, .mv (.tmp 2), none⟩, ⟨some 38, .bin .mul (.tmp
    36) (.tmp 37), none⟩, ⟨some 12, .alloc [(.int .i64 0)], none⟩, ⟨none, .store 1 (.tmp 12) (.tmp 38), none⟩]) (.seq (.region [⟨some 39, .build [(.int .i64 0), (.int .i64 0)] [(0,
    1, (.const (.int .i64 (-1)))), (1, 1, (.const (.int .i64 (-1))))], none⟩, ⟨some 13, .alloc [(.int .i64 0), (.int .i64 0)], none⟩, ⟨none, .store 2 (.tmp 13) (.tmp 39), none⟩])
    (.seq (.seq (.region [⟨some 41, .fld 0 (.tmp 7), none⟩, ⟨some 42, .load false 1 (.tmp 41), none⟩, ⟨some 43, .mkfn 38 [(.tmp 4), (.tmp 5), (.tmp 13), (.tmp 10), (.tmp 12)],
    none⟩, ⟨some 44, .call (.func 37) [(.tmp 42), (.tmp 43)], none⟩, ⟨some 40, .mv (.tmp 44), none⟩, ⟨some 45, .ext (.tmp 40) 0, none⟩, ⟨some 46, .ext (.tmp 40) 1, none⟩, ⟨some 14,
    .mv (.tmp 45), none⟩, ⟨some 15, .mv (.tmp 46), none⟩]) (.seq (.region [⟨some 47, .mv (.tmp 15), none⟩, ⟨some 48, .bin .neq (.tmp 47) (.const (.int .i64 0)), none⟩]) (.cond (.tmp
    48) (.seq (.region [⟨some 49, .mv (.tmp 15), none⟩, ⟨some 8, .mv (.const (.int .i64 0)), none⟩, ⟨some 9, .mv (.tmp 49), none⟩]) .ret) .skip))) (.seq (.seq (.region [⟨some 50,
    .load true 3 (.tmp 10), none⟩, ⟨some 51, .fld 1 (.tmp 7), none⟩, ⟨some 52, .load false 1 (.tmp 51), none⟩, ⟨some 53, .call (.func 43) [(.tmp 50), (.tmp 52)], none⟩, ⟨some 16,
    .mv (.tmp 53), none⟩]) (.seq (.region [⟨some 54, .mv (.tmp 16), none⟩, ⟨some 55, .bin .neq (.tmp 54) (.const (.int .i64 0)), none⟩]) (.cond (.tmp 55) (.seq (.region [⟨some 56,
    .mv (.tmp 16), none⟩, ⟨some 8, .mv (.const (.int .i64 0)), none⟩, ⟨some 9, .mv (.tmp 56), none⟩]) .ret) .skip))) (.seq (.seq (.regionD [⟨some 57, .fld 1 (.tmp 7), none⟩, ⟨some
    58, .load false 1 (.tmp 57), none⟩, ⟨some 59, .load false 1 (.tmp 4), none⟩, ⟨some 60, .len (.tmp 59), none⟩, ⟨some 61, .idx 1 (.tmp 58) (.tmp 60), none⟩, ⟨some 62, .load false
    1 (.tmp 61), none⟩, ⟨some 63, .load false 1 (.tmp 5), none⟩, ⟨some 64, .len (.tmp 63), none⟩, ⟨some 65, .idx 1 (.tmp 62) (.tmp 64), none⟩, ⟨some 66, .load false 1 (.tmp 65),
    none⟩, ⟨some 67, .load false 1 (.tmp 12), none⟩, ⟨some 68, .bin .neq (.tmp 66) (.tmp 67), none⟩] [0, 1, 0, 4, 15, 31, 0, 64, 255, 511, 0, 2047] [0, 1, 2, 3, 4, 5, 6, 7, 8, 9,
    10, 11]) (.cond (.tmp 68) (.seq (.region [⟨some 8, .mv (.const (.int .i64 0)), none⟩, ⟨some 9, .mv (.const (.int .i64 13)), none⟩]) .ret) .skip)) (.seq (.region [⟨some 69, .load
    false 1 (.tmp 12), none⟩, ⟨some 8, .mv (.tmp 69), none⟩, ⟨some 9, .mv (.const (.int .i64 0)), none⟩]) .ret)))))))))
theorem low12 : lowF Try.prog [7] Try.f12 = some (70, lc12.strip, [.tmp 8, .tmp 9]) := by kernel_rfl
theorem fn12 : FnOk Try.prog 12 70 lc12 [.tmp 8, .tmp 9] := ⟨Try.call12, [7], _, Try.func12, low12⟩
/-- moonpool/moonpoolref09.CopyMatch -/
def lc13 : LCode :=
  (.seq (.region [⟨some 1, .boxS (.tmp 0), none⟩, ⟨some 2, .alloc [(.slice none 0 0), (.slice none 0 0)], none⟩]) (.seq (.regionD [⟨some 3, .fld 0 (.tmp 1), none⟩, ⟨some 4, .load
    false 1 (.tmp 3), none⟩, ⟨some 5, .call (.func 44) [(.tmp 4)], none⟩, ⟨some 6, .fld 1 (.tmp 1), none⟩, ⟨some 7, .load false 1 (.tmp 6), none⟩, ⟨some 8, .call (.func 45) [(.tmp
    7)], none⟩, ⟨some 9, .build [(.slice none 0 0), (.slice none 0 0)] [(0, 1, (.tmp 5)), (1, 1, (.tmp 8))], none⟩, ⟨none, .store 2 (.tmp 2) (.tmp 9), none⟩] [0, 1, 3, 0, 8, 31, 63,
    127] [0, 1, 2, 3, 4, 5, 6, 7]) .ret))
theorem low13 : lowF Try.prog [1] Try.f13 = some (10, lc13.strip, [.cell 2 true 2]) := by kernel_rfl
theorem fn13 : FnOk Try.prog 13 10 lc13 [.cell 2 true 2] := ⟨Try.call13, [1], _, Try.func13, low13⟩
/-- moonpool/moonpooltop.paired -/
def lc14 : LCode :=
  (.seq (.region [⟨some 6, .mv (.const (.bool false)), none⟩]) (.seq (.seq (.region [⟨some 7, .mv (.const (.int .i64 0)), none⟩]) (.block 0 (.loop (.seq (.seq (.region [⟨some 8, .mv
    (.tmp 7), none⟩, ⟨some 9, .mv (.tmp 0), none⟩, ⟨some 10, .len (.tmp 9), none⟩, ⟨some 11, .bin .lss (.tmp 8) (.tmp 10), none⟩]) (.cond (.tmp 11) .skip (.exit 0))) (.seq (.block 1
    (.seq (.region [⟨some 14, .mv (.tmp 0), none⟩, ⟨some 15, .mv (.tmp 7), none⟩, ⟨some 16, .mv (.tmp 1), none⟩, ⟨some 17, .idx 2 (.tmp 14) (.tmp 15), none⟩, ⟨some 18, .idxA 1 2
    (.tmp 17) (.tmp 16), none⟩, ⟨some 19, .load false 1 (.tmp 18), none⟩, ⟨some 20, .mv (.tmp 2), none⟩, ⟨some 21, .bin .eql (.tmp 19) (.tmp 20), none⟩]) (.cond (.tmp 21) (.seq
    (.region [⟨some 6, .mv (.const (.bool true)), none⟩]) .ret) .skip))) (.region [⟨some 12, .mv (.tmp 7), none⟩, ⟨some 13, .bin .add (.tmp 12) (.const (.int .i64 1)), none⟩, ⟨some
    7, .mv (.tmp 13), none⟩])))))) (.seq (.region [⟨some 6, .mv (.const (.bool false)), none⟩]) .ret)))
theorem low14 : lowF Try.prog [] Try.f14 = some (22, lc14.strip, [.tmp 6]) := by kernel_rfl
theorem fn14 : FnOk Try.prog 14 22 lc14 [.tmp 6] := ⟨Try.call14, [], _, Try.func14, low14⟩
end Go.Pw

set_option linter.unusedVariables false
set_option maxHeartbeats 2000000
set_option maxRecDepth 100000
namespace Go.Pw
open Go Go.Proofs
/-- moonpool/survey.SpansIn -/
def lc28 : LCode :=
  (.seq (.region [⟨some 4, .mv (.const (.slice none 0 0)), none⟩, ⟨some 5, .mv (.const (.int .i64 0)), none⟩]) (.seq (.region [⟨some 6, .mv (.tmp 0), none⟩, ⟨some 7, .mv (.tmp 1),
    none⟩, ⟨some 8, .call (.func 73) [(.tmp 6), (.tmp 7), (.func 74)], none⟩, ⟨some 9, .ext (.tmp 8) 0, none⟩, ⟨some 10, .ext (.tmp 8) 1, none⟩, ⟨some 4, .mv (.tmp 9), none⟩, ⟨some
    5, .mv (.tmp 10), none⟩]) .ret))
theorem low28 : lowF Try.prog [] Try.f28 = some (11, lc28.strip, [.tmp 4, .tmp 5]) := by kernel_rfl
theorem fn28 : FnOk Try.prog 28 11 lc28 [.tmp 4, .tmp 5] := ⟨Try.call28, [], _, Try.func28, low28⟩
/-- moonpool/moonpoollaw09.Stations -/
def lc29 : LCode :=
  (.seq (.region [⟨some 0, .mv (.const (.slice none 0 0)), none⟩]) (.seq (.region [⟨some 1, .build [(.int .i64 0), (.int .i64 0)] [(0, 1, (.const (.int .i64 (-10)))), (1, 1, (.const
    (.int .i64 (-8))))], none⟩, ⟨some 2, .build [(.int .i64 0), (.int .i64 0)] [(0, 1, (.const (.int .i64 (-5)))), (1, 1, (.const (.int .i64 (-4))))], none⟩, ⟨some 3, .build [(.int
    .i64 0), (.int .i64 0), (.int .i64 0), (.int .i64 0), (.int .i64 0)] [(1, 2, (.tmp 1)), (3, 2, (.tmp 2))], none⟩, ⟨some 4, .build [(.int .i64 0), (.int .i64 0)] [(0, 1, (.const
    (.int .i64 (-10)))), (1, 1, (.const (.int .i64 (-9))))], none⟩, ⟨some 5, .build [(.int .i64 0), (.int .i64 0)] [(0, 1, (.const (.int .i64 (-20)))), (1, 1, (.const (.int .i64
    (-18))))], none⟩, ⟨some 6, .build [(.int .i64 0), (.int .i64 0), (.int .i64 0), (.int .i64 0), (.int .i64 0)] [(0, 1, (.const (.int .i64 100))), (1, 2, (.tmp 4)), (3, 2, (.tmp
    5))], none⟩, ⟨some 7, .build [(.int .i64 0), (.int .i64 0)] [(0, 1, (.const (.int .i64 (-11)))), (1, 1, (.const (.int .i64 (-9))))], none⟩, ⟨some 8, .build [(.int .i64 0), (.int
    .i64 0)] [(0, 1, (.const (.int .i64 (-16)))), (1, 1, (.const (.int .i64 (-13))))], none⟩, ⟨some 9, .build [(.int .i64 0), (.int .i64 0), (.int .i64 0), (.int .i64 0), (.int .i64
    0)] [(0, 1, (.const (.int .i64 200))), (1, 2, (.tmp 7)), (3, 2, (.tmp 8))], none⟩, ⟨some 10, .lit false 152 5 [(.tmp 3), (.tmp 6), (.tmp 9)], none⟩, ⟨some 0, .mv (.tmp 10),
    none⟩]) .ret))
theorem low29 : lowF Try.prog [] Try.f29 = some (11, lc29.strip, [.tmp 0]) := by kernel_rfl
theorem fn29 : FnOk Try.prog 29 11 lc29 [.tmp 0] := ⟨Try.call29, [], _, Try.func29, low29⟩
/-- moonpool/moonpoollaw09.First -/
def lc30 : LCode :=
  (.seq (.region [⟨some 0, .mv (.const (.slice none 0 0)), none⟩]) (.seq (.region [⟨some 1, .build [(.int .i64 0), (.int .i64 0)] [(0, 1, (.const (.int .i64 0))), (1, 1, (.const
    (.int .i64 2)))], none⟩, ⟨some 2, .build [(.int .i64 0), (.int .i64 0)] [(0, 1, (.const (.int .i64 3))), (1, 1, (.const (.int .i64 4)))], none⟩, ⟨some 3, .build [(.int .i64 0),
    (.int .i64 0), (.int .i64 0), (.int .i64 0), (.int .i64 0)] [(0, 2, (.tmp 1)), (3, 2, (.tmp 2))], none⟩, ⟨some 4, .build [(.int .i64 0), (.int .i64 0)] [(0, 1, (.const (.int
    .i64 10))), (1, 1, (.const (.int .i64 11)))], none⟩, ⟨some 5, .build [(.int .i64 0), (.int .i64 0)] [(0, 1, (.const (.int .i64 5))), (1, 1, (.const (.int .i64 6)))], none⟩,
    ⟨some 6, .build [(.int .i64 0), (.int .i64 0), (.int .i64 0), (.int .i64 0), (.int .i64 0)] [(0, 2, (.tmp 4)), (2, 1, (.const (.int .i64 2))), (3, 2, (.tmp 5))], none⟩, ⟨some 7,
    .lit false 33 5 [(.tmp 3), (.tmp 6)], none⟩, ⟨some 0, .mv (.tmp 7), none⟩]) .ret))
theorem low30 : lowF Try.prog [] Try.f30 = some (8, lc30.strip, [.tmp 0]) := by kernel_rfl
theorem fn30 : FnOk Try.prog 30 8 lc30 [.tmp 0] := ⟨Try.call30, [], _, Try.func30, low30⟩
/-- moonpool/moonpoollaw09.Second -/
def lc31 : LCode :=
  (.seq (.region [⟨some 0, .mv (.const (.slice none 0 0)), none⟩]) (.seq (.region [⟨some 1, .build [(.int .i64 0), (.int .i64 0)] [(0, 1, (.const (.int .i64 1))), (1, 1, (.const
    (.int .i64 3)))], none⟩, ⟨some 2, .build [(.int .i64 0), (.int .i64 0)] [(0, 1, (.const (.int .i64 3))), (1, 1, (.const (.int .i64 5)))], none⟩, ⟨some 3, .build [(.int .i64 0),
    (.int .i64 0), (.int .i64 0), (.int .i64 0), (.int .i64 0)] [(0, 2, (.tmp 1)), (3, 2, (.tmp 2))], none⟩, ⟨some 4, .build [(.int .i64 0), (.int .i64 0)] [(0, 1, (.const (.int
    .i64 14))), (1, 1, (.const (.int .i64 15)))], none⟩, ⟨some 5, .build [(.int .i64 0), (.int .i64 0)] [(0, 1, (.const (.int .i64 8))), (1, 1, (.const (.int .i64 9)))], none⟩,
    ⟨some 6, .build [(.int .i64 0), (.int .i64 0), (.int .i64 0), (.int .i64 0), (.int .i64 0)] [(0, 2, (.tmp 4)), (2, 1, (.const (.int .i64 2))), (3, 2, (.tmp 5))], none⟩, ⟨some 7,
    .build [(.int .i64 0), (.int .i64 0)] [(0, 1, (.const (.int .i64 20))), (1, 1, (.const (.int .i64 20)))], none⟩, ⟨some 8, .build [(.int .i64 0), (.int .i64 0)] [(0, 1, (.const
    (.int .i64 1))), (1, 1, (.const (.int .i64 1)))], none⟩, ⟨some 9, .build [(.int .i64 0), (.int .i64 0), (.int .i64 0), (.int .i64 0), (.int .i64 0)] [(0, 2, (.tmp 7)), (2, 1,
    (.const (.int .i64 1))), (3, 2, (.tmp 8))], none⟩, ⟨some 10, .lit false 33 5 [(.tmp 3), (.tmp 6), (.tmp 9)], none⟩, ⟨some 0, .mv (.tmp 10), none⟩]) .ret))
theorem low31 : lowF Try.prog [] Try.f31 = some (11, lc31.strip, [.tmp 0]) := by kernel_rfl
theorem fn31 : FnOk Try.prog 31 11 lc31 [.tmp 0] := ⟨Try.call31, [], _, Try.func31, low31⟩
/-- moonpool/moonpoolbase.Ranges -/
def lc32 : LCode :=
  (.seq (.region [⟨some 4, .mv (.const (.bool false)), none⟩]) (.seq (.seq (.region [⟨some 6, .mv (.tmp 0), none⟩, ⟨some 7, .len (.tmp 6), none⟩, ⟨some 8, .mv (.tmp 1), none⟩, ⟨some
    9, .len (.tmp 8), none⟩, ⟨some 10, .bin .neq (.tmp 7) (.tmp 9), none⟩]) (.cond (.tmp 10) (.seq (.region [⟨some 4, .mv (.const (.bool false)), none⟩]) .ret) .skip)) (.seq (.seq
    (.region [⟨some 5, .mv (.const (.int .i64 0)), none⟩]) (.block 0 (.loop (.seq (.seq (.region [⟨some 11, .mv (.tmp 5), none⟩, ⟨some 12, .mv (.tmp 0), none⟩, ⟨some 13, .len (.tmp
    12), none⟩, ⟨some 14, .bin .lss (.tmp 11) (.tmp 13), none⟩]) (.cond (.tmp 14) .skip (.exit 0))) (.seq (.block 1 (.seq (.regionD [⟨some 17, .mv (.tmp 0), none⟩, ⟨some 18, .mv
    (.tmp 5), none⟩, ⟨some 19, .idx 2 (.tmp 17) (.tmp 18), none⟩, ⟨some 20, .load true 2 (.tmp 19), none⟩, ⟨some 21, .mv (.tmp 1), none⟩, ⟨some 22, .mv (.tmp 5), none⟩, ⟨some 23,
    .idx 2 (.tmp 21) (.tmp 22), none⟩, ⟨some 24, .load true 2 (.tmp 23), none⟩, ⟨some 25, .eqA true [false, false] (.tmp 20) (.tmp 24), none⟩] [0, 0, 3, 7, 0, 0, 48, 112, 255] [0,
    1, 2, 3, 4, 5, 6, 7, 8]) (.cond (.tmp 25) (.seq (.region [⟨some 4, .mv (.const (.bool false)), none⟩]) .ret) .skip))) (.region [⟨some 15, .mv (.tmp 5), none⟩, ⟨some 16, .bin
    .add (.tmp 15) (.const (.int .i64 1)), none⟩, ⟨some 5, .mv (.tmp 16), none⟩])))))) (.seq (.region [⟨some 4, .mv (.const (.bool true)), none⟩]) .ret))))
theorem low32 : lowF Try.prog [] Try.f32 = some (26, lc32.strip, [.tmp 4]) := by kernel_rfl
theorem fn32 : FnOk Try.prog 32 26 lc32 [.tmp 4] := ⟨Try.call32, [], _, Try.func32, low32⟩
/-- moonpool/survey.open -/
def lc33 : LCode :=
  (.seq (.region [⟨some 6, .alloc [(.slice none 0 0), (.slice none 0 0), (.int .i64 0)], none⟩, ⟨some 7, .mv (.const (.int .i64 0)), none⟩]) (.seq (.region [⟨some 8, .mv (.tmp 0),
    none⟩, ⟨some 9, .mv (.tmp 1), none⟩, ⟨some 10, .mv (.tmp 2), none⟩, ⟨some 11, .build [(.slice none 0 0), (.slice none 0 0), (.int .i64 0)] [(0, 1, (.tmp 8)), (1, 1, (.tmp 9)),
    (2, 1, (.tmp 10))], none⟩, ⟨some 12, .mv (.tmp 0), none⟩, ⟨some 13, .call (.func 75) [(.tmp 12)], none⟩, ⟨some 14, .mv (.tmp 1), none⟩, ⟨some 15, .call (.func 75) [(.tmp 14)],
    none⟩, ⟨some 16, .mv (.tmp 2), none⟩, ⟨some 17, .call (.func 76) [(.tmp 16), (.const (.int .i64 0)), (.const (.int .i64 100000))], none⟩, ⟨some 18, .call (.func 41) [(.tmp 17),
    (.const (.int .i64 2))], none⟩, ⟨some 19, .lit false 38 1 [(.tmp 13), (.tmp 15), (.tmp 18)], none⟩, ⟨some 20, .call (.func 39) [(.tmp 19)], none⟩, ⟨none, .store 3 (.tmp 6) (.tmp
    11), none⟩, ⟨some 7, .mv (.tmp 20), none⟩]) .ret))
theorem low33 : lowF Try.prog [] Try.f33 = some (21, lc33.strip, [.cell 6 true 3, .tmp 7]) := by kernel_rfl
theorem fn33 : FnOk Try.prog 33 21 lc33 [.cell 6 true 3, .tmp 7] := ⟨Try.call33, [], _, Try.func33, low33⟩
/-- (moonpool/survey.surveys).match -/
def lc34 : LCode :=
  (.seq (.region [⟨some 1, .box (.tmp 0), none⟩, ⟨some 2, .mv (.const (.slice none 0 0)), none⟩]) (.seq (.region [⟨some 3, .mv (.const (.slice none 0 0)), none⟩]) (.seq (.region
    [⟨some 4, .alloc [(.int .i64 0), (.int .i64 0)], none⟩]) (.block 0 (.loop (.block 1 (.seq (.region [⟨some 9, .load true 3 (.tmp 1), none⟩, ⟨some 10, .call (.func 77) [(.tmp 9)],
    none⟩, ⟨some 8, .mv (.tmp 10), none⟩, ⟨some 11, .ext (.tmp 8) 0, none⟩, ⟨some 12, .ext (.tmp 8) 1, none⟩, ⟨some 13, .ext (.tmp 8) 2, none⟩, ⟨some 5, .mv (.tmp 11), none⟩, ⟨some
    6, .mv (.tmp 12), none⟩, ⟨some 7, .mv (.tmp 13), none⟩]) (.seq (.seq (.region [⟨some 14, .mv (.tmp 7), none⟩, ⟨some 15, .un .not (.tmp 14), none⟩]) (.cond (.tmp 15) (.seq
    (.region [⟨some 16, .mv (.tmp 3), none⟩, ⟨some 2, .mv (.tmp 16), none⟩]) .ret) .skip)) (.seq (.region [⟨some 17, .mv (.tmp 3), none⟩, ⟨some 18, .idxA 1 2 (.tmp 4) (.const (.int
    .i64 0)), none⟩, ⟨some 19, .load false 1 (.tmp 18), none⟩, ⟨some 20, .mv (.tmp 5), none⟩, ⟨some 21, .bin .add (.tmp 19) (.tmp 20), none⟩, ⟨some 22, .idxA 1 2 (.tmp 4) (.const
    (.int .i64 1)), none⟩, ⟨some 23, .load false 1 (.tmp 22), none⟩, ⟨some 24, .mv (.tmp 6), none⟩, ⟨some 25, .bin .add (.tmp 23) (.tmp 24), none⟩, ⟨some 26, .build [(.int .i64 0),
    (.int .i64 0)] [(0, 1, (.tmp 21)), (1, 1, (.tmp 25))], none⟩, ⟨some 27, .lit false 99 2 [(.tmp 26)], none⟩, ⟨some 28, .append true 99 2 16 (.tmp 17) (.tmp 27), none⟩, ⟨some 3,
    .mv (.tmp 28), none⟩]) (.seq (.region [⟨some 29, .idxA 1 2 (.tmp 4) (.const (.int .i64 0)), none⟩, ⟨some 30, .load false 1 (.tmp 29), none⟩, ⟨some 31, .mv (.tmp 5), none⟩, ⟨some
    32, .bin .add (.tmp 30) (.tmp 31), none⟩, ⟨some 33, .bin .add (.tmp 32) (.const (.int .i64 1)), none⟩, ⟨some 34, .idxA 1 2 (.tmp 4) (.const (.int .i64 1)), none⟩, ⟨some 35,
    .load false 1 (.tmp 34), none⟩, ⟨some 36, .mv (.tmp 6), none⟩, ⟨some 37, .bin .add (.tmp 35) (.tmp 36), none⟩, ⟨some 38, .bin .add (.tmp 37) (.const (.int .i64 1)), none⟩, ⟨some
    39, .build [(.int .i64 0), (.int .i64 0)] [(0, 1, (.tmp 33)), (1, 1, (.tmp 38))], none⟩, ⟨none, .store 2 (.tmp 4) (.tmp 39), none⟩]) (.region [⟨some 40, .load true 3 (.tmp 1),
    none⟩, ⟨some 41, .mv (.tmp 5), none⟩, ⟨some 42, .bin .add (.tmp 41) (.const (.int .i64 1)), none⟩, ⟨some 43, .mv (.tmp 6), none⟩, ⟨some 44, .bin .add (.tmp 43) (.const (.int
    .i64 1)), none⟩, ⟨some 45, .call (.func 78) [(.tmp 40), (.tmp 42), (.tmp 44)], none⟩, ⟨none, .store 3 (.tmp 1) (.tmp 45), none⟩])))))))))))
theorem low34 : lowF Try.prog [28] Try.f34 = some (46, lc34.strip, [.tmp 2]) := by kernel_rfl
theorem fn34 : FnOk Try.prog 34 46 lc34 [.tmp 2] := ⟨Try.call34, [28], _, Try.func34, low34⟩
/-- (moonpool/survey.surveys).potentials -/
def lc35 : LCode :=
  (.seq (.region [⟨some 1, .boxS (.tmp 0), none⟩, ⟨some 2, .mv (.const (.slice none 0 0)), none⟩]) (.seq (.region [⟨some 3, .mv (.const (.slice none 0 0)), none⟩]) (.seq (.seq
    (.region [⟨some 10, .fld 0 (.tmp 1), none⟩, ⟨some 11, .load false 1 (.tmp 10), none⟩, ⟨some 12, .len (.tmp 11), none⟩, ⟨some 13, .bin .add (.tmp 12) (.const (.int .i64 1)),
    none⟩, ⟨some 14, .mv (.const (.int .i64 0)), none⟩]) (.block 0 (.loop (.seq (.region [⟨some 15, .bin .lss (.tmp 14) (.tmp 13), none⟩]) (.seq (.cond (.tmp 15) .skip (.exit 0))
    (.seq (.block 1 (.seq (.region [⟨some 16, .mv (.tmp 14), none⟩, ⟨some 4, .mv (.tmp 16), none⟩]) (.seq (.region [⟨some 5, .mv (.const (.slice none 0 0)), none⟩]) (.seq (.seq
    (.region [⟨some 17, .fld 1 (.tmp 1), none⟩, ⟨some 18, .load false 1 (.tmp 17), none⟩, ⟨some 19, .len (.tmp 18), none⟩, ⟨some 20, .bin .add (.tmp 19) (.const (.int .i64 1)),
    none⟩, ⟨some 21, .mv (.const (.int .i64 0)), none⟩]) (.block 2 (.loop (.seq (.region [⟨some 22, .bin .lss (.tmp 21) (.tmp 20), none⟩]) (.seq (.cond (.tmp 22) .skip (.exit 2))
    (.seq (.block 3 (.seq (.region [⟨some 23, .mv (.tmp 21), none⟩, ⟨some 6, .mv (.tmp 23), none⟩]) (.seq (.region [⟨some 24, .mv (.tmp 4), none⟩, ⟨some 25, .mv (.tmp 6), none⟩,
    ⟨some 26, .bin .add (.tmp 24) (.tmp 25), none⟩, ⟨some 27, .fld 2 (.tmp 1), none⟩, ⟨some 28, .load false 1 (.tmp 27), none⟩, ⟨some 29, .bin .mul (.tmp 26) (.tmp 28), none⟩, ⟨some
    7, .mv (.tmp 29), none⟩]) (.seq (.seq (.region [⟨some 30, .mv (.tmp 4), none⟩, ⟨some 31, .bin .gtr (.tmp 30) (.const (.int .i64 0)), none⟩]) (.cond (.tmp 31) (.regionD [⟨some
    32, .mv (.tmp 7), none⟩, ⟨some 33, .mv (.tmp 3), none⟩, ⟨some 34, .mv (.tmp 4), none⟩, ⟨some 35, .bin .sub (.tmp 34) (.const (.int .i64 1)), none⟩, ⟨some 36, .idx 1 (.tmp 33)
    (.tmp 35), none⟩, ⟨some 37, .load false 1 (.tmp 36), none⟩, ⟨some 38, .mv (.tmp 6), none⟩, ⟨some 39, .idx 1 (.tmp 37) (.tmp 38), none⟩, ⟨some 40, .load false 1 (.tmp 39), none⟩,
    ⟨some 41, .fld 2 (.tmp 1), none⟩, ⟨some 42, .load false 1 (.tmp 41), none⟩, ⟨some 43, .bin .add (.tmp 40) (.tmp 42), none⟩, ⟨some 44, .mm false [(.tmp 32), (.tmp 43)], none⟩,
    ⟨some 7, .mv (.tmp 44), none⟩] [0, 0, 0, 4, 14, 30, 0, 126, 254, 0, 512, 2046, 4095, 8191] [0, 1, 2, 3, 4, 5, 6, 7, 8, 9, 10, 11, 12, 13]) .skip)) (.seq (.seq (.region [⟨some
    45, .mv (.tmp 6), none⟩, ⟨some 46, .bin .gtr (.tmp 45) (.const (.int .i64 0)), none⟩]) (.cond (.tmp 46) (.regionD [⟨some 47, .mv (.tmp 7), none⟩, ⟨some 48, .mv (.tmp 5), none⟩,
    ⟨some 49, .mv (.tmp 6), none⟩, ⟨some 50, .bin .sub (.tmp 49) (.const (.int .i64 1)), none⟩, ⟨some 51, .idx 1 (.tmp 48) (.tmp 50), none⟩, ⟨some 52, .load false 1 (.tmp 51),
    none⟩, ⟨some 53, .fld 2 (.tmp 1), none⟩, ⟨some 54, .load false 1 (.tmp 53), none⟩, ⟨some 55, .bin .add (.tmp 52) (.tmp 54), none⟩, ⟨some 56, .mm false [(.tmp 47), (.tmp 55)],
    none⟩, ⟨some 7, .mv (.tmp 56), none⟩] [0, 0, 0, 4, 14, 30, 0, 64, 254, 511, 1023] [0, 1, 2, 3, 4, 5, 6, 7, 8, 9, 10]) .skip)) (.seq (.seq (.region [⟨some 57, .mv (.tmp 4),
    none⟩, ⟨some 58, .bin .gtr (.tmp 57) (.const (.int .i64 0)), none⟩, ⟨some 59, .mv (.tmp 58), none⟩, ⟨some 60, .mv (.tmp 6), some (59, true)⟩, ⟨some 61, .bin .gtr (.tmp 60)
    (.const (.int .i64 0)), some (59, true)⟩, ⟨some 62, .pick (.tmp 59) (.tmp 61) (.const (.bool false)), none⟩]) (.cond (.tmp 62) (.seq (.region [⟨some 64, .load true 3 (.tmp 1),
    none⟩, ⟨some 65, .mv (.tmp 4), none⟩, ⟨some 66, .bin .sub (.tmp 65) (.const (.int .i64 1)), none⟩, ⟨some 67, .mv (.tmp 6), none⟩, ⟨some 68, .bin .sub (.tmp 67) (.const (.int
    .i64 1)), none⟩, ⟨some 69, .call (.func 42) [(.tmp 64), (.tmp 66), (.tmp 68)], none⟩, ⟨some 63, .mv (.tmp 69), none⟩, ⟨some 70, .ext (.tmp 63) 0, none⟩, ⟨some 71, .ext (.tmp 63)
    1, none⟩, ⟨some 8, .mv (.tmp 70), none⟩, ⟨some 9, .mv (.tmp 71), none⟩]) (.seq (.region [⟨some 72, .mv (.tmp 9), none⟩]) (.cond (.tmp 72) (.region [⟨some 73, .mv (.tmp 7),
    none⟩, ⟨some 74, .mv (.tmp 3), none⟩, ⟨some 75, .mv (.tmp 4), none⟩, ⟨some 76, .bin .sub (.tmp 75) (.const (.int .i64 1)), none⟩, ⟨some 77, .idx 1 (.tmp 74) (.tmp 76), none⟩,
    ⟨some 78, .load false 1 (.tmp 77), none⟩, ⟨some 79, .mv (.tmp 6), none⟩, ⟨some 80, .bin .sub (.tmp 79) (.const (.int .i64 1)), none⟩, ⟨some 81, .idx 1 (.tmp 78) (.tmp 80),
    none⟩, ⟨some 82, .load false 1 (.tmp 81), none⟩, ⟨some 83, .mv (.tmp 8), none⟩, ⟨some 84, .bin .add (.tmp 82) (.tmp 83), none⟩, ⟨some 85, .mm false [(.tmp 73), (.tmp 84)],
    none⟩, ⟨some 7, .mv (.tmp 85), none⟩]) .skip))) .skip)) (.region [⟨some 86, .mv (.tmp 5), none⟩, ⟨some 87, .mv (.tmp 7), none⟩, ⟨some 88, .lit false 3 1 [(.tmp 87)], none⟩,
    ⟨some 89, .append true 3 1 8 (.tmp 86) (.tmp 88), none⟩, ⟨some 5, .mv (.tmp 89), none⟩]))))))) (.region [⟨some 90, .bin .add (.tmp 21) (.const (.int .i64 1)), none⟩, ⟨some 21,
    .mv (.tmp 90), none⟩]))))))) (.region [⟨some 91, .mv (.tmp 3), none⟩, ⟨some 92, .mv (.tmp 5), none⟩, ⟨some 93, .lit false 26 1 [(.tmp 92)], none⟩, ⟨some 94, .append true 26 1 24
    (.tmp 91) (.tmp 93), none⟩, ⟨some 3, .mv (.tmp 94), none⟩]))))) (.region [⟨some 95, .bin .add (.tmp 14) (.const (.int .i64 1)), none⟩, ⟨some 14, .mv (.tmp 95), none⟩])))))))
    (.seq (.region [⟨some 96, .mv (.tmp 3), none⟩, ⟨some 2, .mv (.tmp 96), none⟩]) .ret))))
theorem low35 : lowF Try.prog [1, 89, 94] Try.f35 = some (97, lc35.strip, [.tmp 2]) := by kernel_rfl
theorem fn35 : FnOk Try.prog 35 97 lc35 [.tmp 2] := ⟨Try.call35, [1, 89, 94], _, Try.func35, low35⟩
/-- (moonpool/survey.surveys).cost -/
def lc36 : LCode :=
  (.seq (.region [⟨some 1, .boxS (.tmp 0), none⟩, ⟨some 2, .mv (.const (.int .i64 0)), none⟩]) (.seq (.regionD [⟨some 3, .load true 3 (.tmp 1), none⟩, ⟨some 4, .call (.func 35)
    [(.tmp 3)], none⟩, ⟨some 5, .fld 0 (.tmp 1), none⟩, ⟨some 6, .load false 1 (.tmp 5), none⟩, ⟨some 7, .len (.tmp 6), none⟩, ⟨some 8, .idx 1 (.tmp 4) (.tmp 7), none⟩, ⟨some 9,
    .load false 1 (.tmp 8), none⟩, ⟨some 10, .fld 1 (.tmp 1), none⟩, ⟨some 11, .load false 1 (.tmp 10), none⟩, ⟨some 12, .len (.tmp 11), none⟩, ⟨some 13, .idx 1 (.tmp 9) (.tmp 12),
    none⟩, ⟨some 14, .load false 1 (.tmp 13), none⟩, ⟨some 2, .mv (.tmp 14), none⟩] [0, 1, 0, 4, 12, 31, 63, 0, 128, 384, 1023, 2047, 4095] [0, 1, 2, 3, 4, 5, 6, 7, 8, 9, 10, 11,
    12]) .ret))
theorem low36 : lowF Try.prog [1] Try.f36 = some (15, lc36.strip, [.tmp 2]) := by kernel_rfl
theorem fn36 : FnOk Try.prog 36 15 lc36 [.tmp 2] := ⟨Try.call36, [1], _, Try.func36, low36⟩
/-- moonpool/survey.each[[2]int] -/
def lc37 : LCode :=
  (.seq (.region [⟨some 4, .mv (.const (.int .i64 0)), none⟩, ⟨some 5, .mv (.const (.int .i64 0)), none⟩]) (.seq (.seq (.region [⟨some 9, .mv (.tmp 0), none⟩, ⟨some 10, .len (.tmp
    9), none⟩, ⟨some 11, .mv (.const (.int .i64 0)), none⟩]) (.block 0 (.loop (.seq (.region [⟨some 12, .bin .lss (.tmp 11) (.tmp 10), none⟩]) (.seq (.cond (.tmp 12) .skip (.exit
    0)) (.seq (.block 1 (.seq (.region [⟨some 13, .mv (.tmp 11), none⟩, ⟨some 14, .idx 2 (.tmp 9) (.tmp 11), none⟩, ⟨some 15, .load true 2 (.tmp 14), none⟩, ⟨some 7, .alloc [(.int
    .i64 0), (.int .i64 0)], none⟩, ⟨some 6, .mv (.tmp 13), none⟩, ⟨none, .store 2 (.tmp 7) (.tmp 15), none⟩]) (.seq (.region [⟨some 16, .mv (.tmp 1), none⟩, ⟨some 17, .mv (.tmp 6),
    none⟩, ⟨some 18, .load true 2 (.tmp 7), none⟩, ⟨some 19, .call (.tmp 16) [(.tmp 17), (.tmp 18)], none⟩, ⟨some 8, .mv (.tmp 19), none⟩]) (.seq (.region [⟨some 20, .mv (.tmp 8),
    none⟩, ⟨some 21, .bin .neq (.tmp 20) (.const (.int .i64 0)), none⟩]) (.cond (.tmp 21) (.seq (.region [⟨some 22, .mv (.tmp 6), none⟩, ⟨some 23, .mv (.tmp 8), none⟩, ⟨some 4, .mv
    (.tmp 22), none⟩, ⟨some 5, .mv (.tmp 23), none⟩]) .ret) .skip))))) (.region [⟨some 24, .bin .add (.tmp 11) (.const (.int .i64 1)), none⟩, ⟨some 11, .mv (.tmp 24), none⟩])))))))
    (.seq (.region [⟨some 4, .mv (.const (.int .i64 0)), none⟩, ⟨some 5, .mv (.const (.int .i64 0)), none⟩]) .ret)))
theorem low37 : lowF Try.prog [] Try.f37 = some (25, lc37.strip, [.tmp 4, .tmp 5]) := by kernel_rfl
theorem fn37 : FnOk Try.prog 37 25 lc37 [.tmp 4, .tmp 5] := ⟨Try.call37, [], _, Try.func37, low37⟩
/-- moonpool/survey.CheckMatch$1 -/
def lc38 : LCode :=
  (.seq (.region [⟨some 8, .boxS (.tmp 1), none⟩, ⟨some 9, .mv (.const (.int .i64 0)), none⟩]) (.seq (.seq (.regionD [⟨some 13, .idxA 1 2 (.tmp 8) (.const (.int .i64 0)), none⟩,
    ⟨some 14, .load false 1 (.tmp 13), none⟩, ⟨some 15, .load false 1 (.tmp 2), none⟩, ⟨some 16, .len (.tmp 15), none⟩, ⟨some 17, .call (.func 40) [(.tmp 14), (.tmp 16)], none⟩,
    ⟨some 18, .idxA 1 2 (.tmp 8) (.const (.int .i64 1)), none⟩, ⟨some 19, .load false 1 (.tmp 18), none⟩, ⟨some 20, .load false 1 (.tmp 3), none⟩, ⟨some 21, .len (.tmp 20), none⟩,
    ⟨some 22, .call (.func 40) [(.tmp 19), (.tmp 21)], none⟩, ⟨some 23, .idxA 1 2 (.tmp 8) (.const (.int .i64 0)), none⟩, ⟨some 24, .load false 1 (.tmp 23), none⟩, ⟨some 25, .idxA 1
    2 (.tmp 4) (.const (.int .i64 0)), none⟩, ⟨some 26, .load false 1 (.tmp 25), none⟩, ⟨some 27, .bin .gtr (.tmp 24) (.tmp 26), none⟩, ⟨some 28, .mv (.tmp 27), none⟩, ⟨some 29,
    .idxA 1 2 (.tmp 8) (.const (.int .i64 1)), some (28, true)⟩, ⟨some 30, .load false 1 (.tmp 29), some (28, true)⟩, ⟨some 31, .idxA 1 2 (.tmp 4) (.const (.int .i64 1)), some (28,
    true)⟩, ⟨some 32, .load false 1 (.tmp 31), some (28, true)⟩, ⟨some 33, .bin .gtr (.tmp 30) (.tmp 32), some (28, true)⟩, ⟨some 34, .pick (.tmp 28) (.tmp 33) (.const (.bool
    false)), none⟩, ⟨some 35, .call (.func 41) [(.tmp 34), (.const (.int .i64 9))], none⟩, ⟨some 36, .lit false 38 1 [(.tmp 17), (.tmp 22), (.tmp 35)], none⟩, ⟨some 37, .call (.func
    39) [(.tmp 36)], none⟩, ⟨some 10, .mv (.tmp 37), none⟩] [0, 1, 0, 4, 15, 0, 32, 0, 128, 511, 0, 1024, 0, 4096, 15360, 32767, 65535, 131071, 65535, 327679, 1048575, 2097151,
    4194303, 8388607, 16777215, 33554431] [0, 1, 2, 3, 4, 5, 6, 7, 8, 9, 10, 11, 12, 13, 14, 15, 16, 17, 18, 19, 20, 21, 22, 23, 24, 25]) (.seq (.region [⟨some 38, .mv (.tmp 10),
    none⟩, ⟨some 39, .bin .neq (.tmp 38) (.const (.int .i64 0)), none⟩]) (.cond (.tmp 39) (.seq (.region [⟨some 40, .mv (.tmp 10), none⟩, ⟨some 9, .mv (.tmp 40), none⟩]) .ret)
    .skip))) (.seq (.region [⟨some 41, .load true 2 (.tmp 8), none⟩, ⟨none, .store 2 (.tmp 4) (.tmp 41), none⟩]) (.seq (.region [⟨some 43, .load true 3 (.tmp 5), none⟩, ⟨some 44,
    .idxA 1 2 (.tmp 8) (.const (.int .i64 0)), none⟩, ⟨some 45, .load false 1 (.tmp 44), none⟩, ⟨some 46, .idxA 1 2 (.tmp 8) (.const (.int .i64 1)), none⟩, ⟨some 47, .load false 1
    (.tmp 46), none⟩, ⟨some 48, .call (.func 42) [(.tmp 43), (.tmp 45), (.tmp 47)], none⟩, ⟨some 42, .mv (.tmp 48), none⟩, ⟨some 49, .ext (.tmp 42) 0, none⟩, ⟨some 50, .ext (.tmp
    42) 1, none⟩, ⟨some 11, .mv (.tmp 49), none⟩, ⟨some 12, .mv (.tmp 50), none⟩]) (.seq (.region [⟨some 51, .load false 1 (.tmp 6), none⟩, ⟨some 52, .mv (.tmp 11), none⟩, ⟨some 53,
    .bin .add (.tmp 51) (.tmp 52), none⟩, ⟨none, .store 1 (.tmp 6) (.tmp 53), none⟩]) (.seq (.region [⟨some 54, .mv (.tmp 12), none⟩, ⟨some 55, .call (.func 41) [(.tmp 54), (.const
    (.int .i64 15))], none⟩, ⟨some 9, .mv (.tmp 55), none⟩]) .ret))))))
theorem low38 : lowF Try.prog [8] Try.f38 = some (56, lc38.strip, [.tmp 9]) := by kernel_rfl
theorem fn38 : FnOk Try.prog 38 56 lc38 [.tmp 9] := ⟨Try.call38, [8], _, Try.func38, low38⟩
/-- moonpool/survey.first -/
def lc39 : LCode :=
  (.seq (.region [⟨some 2, .mv (.const (.int .i64 0)), none⟩]) (.seq (.seq (.region [⟨some 5, .mv (.tmp 0), none⟩, ⟨some 6, .len (.tmp 5), none⟩, ⟨some 7, .mv (.const (.int .i64
    0)), none⟩]) (.block 0 (.loop (.seq (.region [⟨some 8, .bin .lss (.tmp 7) (.tmp 6), none⟩]) (.seq (.cond (.tmp 8) .skip (.exit 0)) (.seq (.block 1 (.seq (.region [⟨some 9, .idx
    1 (.tmp 5) (.tmp 7), none⟩, ⟨some 10, .load false 1 (.tmp 9), none⟩, ⟨some 4, .mv (.tmp 10), none⟩]) (.seq (.region [⟨some 11, .mv (.tmp 4), none⟩, ⟨some 12, .bin .neq (.tmp 11)
    (.const (.int .i64 0)), none⟩]) (.cond (.tmp 12) (.seq (.region [⟨some 13, .mv (.tmp 4), none⟩, ⟨some 2, .mv (.tmp 13), none⟩]) .ret) .skip)))) (.region [⟨some 14, .bin .add
    (.tmp 7) (.const (.int .i64 1)), none⟩, ⟨some 7, .mv (.tmp 14), none⟩]))))))) (.seq (.region [⟨some 2, .mv (.const (.int .i64 0)), none⟩]) .ret)))
theorem low39 : lowF Try.prog [] Try.f39 = some (15, lc39.strip, [.tmp 2]) := by kernel_rfl
theorem fn39 : FnOk Try.prog 39 15 lc39 [.tmp 2] := ⟨Try.call39, [], _, Try.func39, low39⟩
/-- moonpool/survey.indexErr -/
def lc40 : LCode :=
  (.seq (.region [⟨some 4, .mv (.const (.int .i64 0)), none⟩]) (.seq (.region [⟨some 5, .mv (.tmp 0), none⟩, ⟨some 6, .mv (.tmp 1), none⟩, ⟨some 7, .bin .sub (.tmp 6) (.const (.int
    .i64 1)), none⟩, ⟨some 8, .call (.func 76) [(.tmp 5), (.const (.int .i64 0)), (.tmp 7)], none⟩, ⟨some 9, .call (.func 41) [(.tmp 8), (.const (.int .i64 6))], none⟩, ⟨some 4, .mv
    (.tmp 9), none⟩]) .ret))
theorem low40 : lowF Try.prog [] Try.f40 = some (10, lc40.strip, [.tmp 4]) := by kernel_rfl
theorem fn40 : FnOk Try.prog 40 10 lc40 [.tmp 4] := ⟨Try.call40, [], _, Try.func40, low40⟩
/-- moonpool/survey.unless -/
def lc41 : LCode :=
  (.seq (.region [⟨some 4, .mv (.const (.int .i64 0)), none⟩]) (.seq (.seq (.region [⟨some 5, .mv (.tmp 0), none⟩]) (.cond (.tmp 5) (.seq (.region [⟨some 4, .mv (.const (.int .i64
    0)), none⟩]) .ret) .skip)) (.seq (.region [⟨some 6, .mv (.tmp 1), none⟩, ⟨some 4, .mv (.tmp 6), none⟩]) .ret)))
theorem low41 : lowF Try.prog [] Try.f41 = some (7, lc41.strip, [.tmp 4]) := by kernel_rfl
theorem fn41 : FnOk Try.prog 41 7 lc41 [.tmp 4] := ⟨Try.call41, [], _, Try.func41, low41⟩
/-- (moonpool/survey.surveys).distance -/
def lc42 : LCode :=
  (.seq (.region [⟨some 3, .boxS (.tmp 0), none⟩, ⟨some 6, .mv (.const (.int .i64 0)), none⟩, ⟨some 7, .mv (.const (.bool false)), none⟩]) (.seq (.regionD [⟨some 10, .fld 0 (.tmp
    3), none⟩, ⟨some 11, .load false 1 (.tmp 10), none⟩, ⟨some 12, .mv (.tmp 1), none⟩, ⟨some 13, .idx 5 (.tmp 11) (.tmp 12), none⟩, ⟨some 14, .load true 5 (.tmp 13), none⟩, ⟨some
    15, .fld 1 (.tmp 3), none⟩, ⟨some 16, .load false 1 (.tmp 15), none⟩, ⟨some 17, .mv (.tmp 2), none⟩, ⟨some 18, .idx 5 (.tmp 16) (.tmp 17), none⟩, ⟨some 19, .load true 5 (.tmp
    18), none⟩, ⟨some 8, .alloc [(.int .i64 0), (.int .i64 0), (.int .i64 0), (.int .i64 0), (.int .i64 0)], none⟩, ⟨some 9, .alloc [(.int .i64 0), (.int .i64 0), (.int .i64 0),
    (.int .i64 0), (.int .i64 0)], none⟩, ⟨none, .store 5 (.tmp 8) (.tmp 14), none⟩, ⟨none, .store 5 (.tmp 9) (.tmp 19), none⟩] [0, 1, 0, 7, 15, 0, 32, 0, 224, 480, 0, 0, 3103,
    8191] [0, 1, 2, 3, 4, 5, 6, 7, 8, 9, 10, 11, 12, 13]) (.seq (.regionD [⟨some 20, .fld 0 (.tmp 8), none⟩, ⟨some 21, .fld 0 (.tmp 20), none⟩, ⟨some 22, .load false 1 (.tmp 21),
    none⟩, ⟨some 23, .fld 0 (.tmp 9), none⟩, ⟨some 24, .fld 1 (.tmp 23), none⟩, ⟨some 25, .load false 1 (.tmp 24), none⟩, ⟨some 26, .bin .sub (.tmp 22) (.tmp 25), none⟩, ⟨some 27,
    .fld 0 (.tmp 9), none⟩, ⟨some 28, .fld 0 (.tmp 27), none⟩, ⟨some 29, .load false 1 (.tmp 28), none⟩, ⟨some 30, .fld 0 (.tmp 8), none⟩, ⟨some 31, .fld 1 (.tmp 30), none⟩, ⟨some
    32, .load false 1 (.tmp 31), none⟩, ⟨some 33, .bin .sub (.tmp 29) (.tmp 32), none⟩, ⟨some 34, .mm true [(.const (.int .i64 0)), (.tmp 26), (.tmp 33)], none⟩, ⟨some 35, .fld 2
    (.tmp 8), none⟩, ⟨some 36, .load false 1 (.tmp 35), none⟩, ⟨some 37, .fld 2 (.tmp 9), none⟩, ⟨some 38, .load false 1 (.tmp 37), none⟩, ⟨some 39, .bin .eql (.tmp 36) (.tmp 38),
    none⟩, ⟨some 6, .mv (.tmp 34), none⟩, ⟨some 7, .mv (.tmp 39), none⟩] [0, 1, 3, 0, 8, 24, 63, 0, 128, 384, 0, 1024, 3072, 8064, 16383, 0, 32768, 0, 131072, 491520, 32767,
    2097151] [0, 1, 2, 3, 4, 5, 6, 7, 8, 9, 10, 11, 12, 13, 14, 15, 16, 17, 18, 19, 20, 21]) .ret)))
theorem low42 : lowF Try.prog [3] Try.f42 = some (40, lc42.strip, [.tmp 6, .tmp 7]) := by kernel_rfl
theorem fn42 : FnOk Try.prog 42 40 lc42 [.tmp 6, .tmp 7] := ⟨Try.call42, [3], _, Try.func42, low42⟩
/-- (moonpool/survey.surveys).hold -/
def lc43 : LCode :=
  (.seq (.region [⟨some 2, .boxS (.tmp 0), none⟩, ⟨some 4, .mv (.const (.int .i64 0)), none⟩]) (.seq (.seq (.region [⟨some 14, .mv (.tmp 1), none⟩, ⟨some 15, .len (.tmp 14), none⟩,
    ⟨some 16, .fld 0 (.tmp 2), none⟩, ⟨some 17, .load false 1 (.tmp 16), none⟩, ⟨some 18, .len (.tmp 17), none⟩, ⟨some 19, .bin .add (.tmp 18) (.const (.int .i64 1)), none⟩, ⟨some
    20, .bin .neq (.tmp 15) (.tmp 19), none⟩, ⟨some 21, .mv (.tmp 20), none⟩, ⟨some 22, .mv (.tmp 1), some (21, false)⟩, ⟨some 23, .mkfn 80 [(.tmp 2)], some (21, false)⟩, ⟨some 24,
    .call (.func 79) [(.tmp 22), (.tmp 23)], some (21, false)⟩, ⟨some 25, .pick (.tmp 21) (.const (.bool true)) (.tmp 24), none⟩]) (.cond (.tmp 25) (.seq (.region [⟨some 4, .mv
    (.const (.int .i64 10)), none⟩]) .ret) .skip)) (.seq (.seq (.region [⟨some 26, .mv (.tmp 1), none⟩, ⟨some 27, .call (.func 81) [(.tmp 26)], none⟩, ⟨some 28, .len (.tmp 27),
    none⟩, ⟨some 29, .mv (.const (.int .i64 0)), none⟩]) (.block 0 (.loop (.seq (.region [⟨some 30, .bin .lss (.tmp 29) (.tmp 28), none⟩]) (.seq (.cond (.tmp 30) .skip (.exit 0))
    (.seq (.block 1 (.seq (.region [⟨some 31, .idx 1 (.tmp 27) (.tmp 29), none⟩, ⟨some 32, .load false 1 (.tmp 31), none⟩, ⟨some 6, .mv (.tmp 32), none⟩]) (.seq (.region [⟨some 33,
    .mv (.tmp 6), none⟩, ⟨some 34, .call (.func 76) [(.tmp 33), (.const (.int .i64 0)), (.const (.int .i64 3200000))], none⟩, ⟨some 35, .un .not (.tmp 34), none⟩]) (.cond (.tmp 35)
    (.seq (.region [⟨some 4, .mv (.const (.int .i64 2)), none⟩]) .ret) .skip)))) (.region [⟨some 36, .bin .add (.tmp 29) (.const (.int .i64 1)), none⟩, ⟨some 29, .mv (.tmp 36),
    none⟩]))))))) (.seq (.region [⟨some 37, .mv (.tmp 1), none⟩, ⟨some 38, .idx 1 (.tmp 37) (.const (.int .i64 0)), none⟩, ⟨some 39, .load false 1 (.tmp 38), none⟩, ⟨some 40, .idx 1
    (.tmp 39) (.const (.int .i64 0)), none⟩, ⟨some 41, .load false 1 (.tmp 40), none⟩, ⟨some 42, .bin .eql (.tmp 41) (.const (.int .i64 0)), none⟩, ⟨some 7, .mv (.tmp 42), none⟩])
    (.seq (.seq (.region [⟨some 43, .mv (.tmp 1), none⟩, ⟨some 44, .len (.tmp 43), none⟩, ⟨some 45, .mv (.const (.int .i64 0)), none⟩]) (.block 2 (.loop (.seq (.region [⟨some 46,
    .bin .lss (.tmp 45) (.tmp 44), none⟩]) (.seq (.cond (.tmp 46) .skip (.exit 2)) (.seq (.block 3 (.seq (.region [⟨some 47, .mv (.tmp 45), none⟩, ⟨some 48, .idx 1 (.tmp 43) (.tmp
    45), none⟩, ⟨some 49, .load false 1 (.tmp 48), none⟩, ⟨some 8, .mv (.tmp 47), none⟩, ⟨some 9, .mv (.tmp 49), none⟩]) (.seq (.region [⟨some 50, .mv (.tmp 9), none⟩, ⟨some 51,
    .len (.tmp 50), none⟩, ⟨some 52, .mv (.const (.int .i64 0)), none⟩]) (.block 4 (.loop (.seq (.region [⟨some 53, .bin .lss (.tmp 52) (.tmp 51), none⟩]) (.seq (.cond (.tmp 53)
    .skip (.exit 4)) (.seq (.block 5 (.seq (.region [⟨some 54, .mv (.tmp 52), none⟩, ⟨some 55, .idx 1 (.tmp 50) (.tmp 52), none⟩, ⟨some 56, .load false 1 (.tmp 55), none⟩, ⟨some 10,
    .mv (.tmp 54), none⟩, ⟨some 11, .mv (.tmp 56), none⟩]) (.seq (.regionD [⟨some 57, .mv (.tmp 7), none⟩, ⟨some 58, .mv (.tmp 57), none⟩, ⟨some 59, .mv (.tmp 8), some (58, true)⟩,
    ⟨some 60, .bin .eql (.tmp 59) (.const (.int .i64 0)), some (58, true)⟩, ⟨some 61, .mv (.tmp 60), some (58, true)⟩, ⟨some 62, .mv (.tmp 11), some (61, false)⟩, ⟨some 63, .mv
    (.tmp 1), some (61, false)⟩, ⟨some 64, .mv (.tmp 8), some (61, false)⟩, ⟨some 65, .bin .sub (.tmp 64) (.const (.int .i64 1)), some (61, false)⟩, ⟨some 66, .mm true [(.const
    (.int .i64 0)), (.tmp 65)], some (61, false)⟩, ⟨some 67, .idx 1 (.tmp 63) (.tmp 66), some (61, false)⟩, ⟨some 68, .load false 1 (.tmp 67), some (61, false)⟩, ⟨some 69, .mv (.tmp
    10), some (61, false)⟩, ⟨some 70, .idx 1 (.tmp 68) (.tmp 69), some (61, false)⟩, ⟨some 71, .load false 1 (.tmp 70), some (61, false)⟩, ⟨some 72, .fld 2 (.tmp 2), some (61,
    false)⟩, ⟨some 73, .load false 1 (.tmp 72), some (61, false)⟩, ⟨some 74, .bin .add (.tmp 71) (.tmp 73), some (61, false)⟩, ⟨some 75, .bin .leq (.tmp 62) (.tmp 74), some (61,
    false)⟩, ⟨some 76, .pick (.tmp 61) (.const (.bool true)) (.tmp 75), some (58, true)⟩, ⟨some 77, .pick (.tmp 58) (.tmp 76) (.const (.bool false)), none⟩, ⟨some 78, .mv (.tmp 77),
    none⟩, ⟨some 79, .mv (.tmp 10), some (78, true)⟩, ⟨some 80, .bin .eql (.tmp 79) (.const (.int .i64 0)), some (78, true)⟩, ⟨some 81, .mv (.tmp 80), some (78, true)⟩, ⟨some 82,
    .mv (.tmp 11), some (81, false)⟩, ⟨some 83, .mv (.tmp 9), some (81, false)⟩, ⟨some 84, .mv (.tmp 10), some (81, false)⟩, ⟨some 85, .bin .sub (.tmp 84) (.const (.int .i64 1)),
    some (81, false)⟩, ⟨some 86, .mm true [(.const (.int .i64 0)), (.tmp 85)], some (81, false)⟩, ⟨some 87, .idx 1 (.tmp 83) (.tmp 86), some (81, false)⟩, ⟨some 88, .load false 1
    (.tmp 87), some (81, false)⟩, ⟨some 89, .fld 2 (.tmp 2), some (81, false)⟩, ⟨some 90, .load false 1 (.tmp 89), some (81, false)⟩, ⟨some 91, .bin .add (.tmp 88) (.tmp 90), some
    (81, false)⟩, ⟨some 92, .bin .leq (.tmp 82) (.tmp 91), some (81, false)⟩, ⟨some 93, .pick (.tmp 81) (.const (.bool true)) (.tmp 92), some (78, true)⟩, ⟨some 94, .pick (.tmp 78)
    (.tmp 93) (.const (.bool false)), none⟩, ⟨some 7, .mv (.tmp 94), none⟩] [0, 1, 3, 7, 15, 31, 31, 31, 159, 415, 991, 2015, 31, 8159, 16351, 31, 32799, 131039, 262143, 524287,
    1048575, 2097151, 4194303, 8388607, 16777215, 33554431, 33554431, 33554431, 167772159, 436207615, 1040187391, 2113929215, 33554431, 4328521727, 17146314751, 34359738367,
    68719476735, 137438953471, 274877906943] [0, 1, 2, 3, 4, 5, 6, 7, 8, 9, 10, 11, 12, 13, 14, 15, 16, 17, 18, 19, 20, 21, 22, 23, 24, 25, 26, 27, 28, 29, 30, 31, 32, 33, 34, 35,
    36, 37, 38]) (.seq (.region [⟨some 95, .mv (.tmp 8), none⟩, ⟨some 96, .bin .gtr (.tmp 95) (.const (.int .i64 0)), none⟩, ⟨some 97, .mv (.tmp 96), none⟩, ⟨some 98, .mv (.tmp 10),
    some (97, true)⟩, ⟨some 99, .bin .gtr (.tmp 98) (.const (.int .i64 0)), some (97, true)⟩, ⟨some 100, .pick (.tmp 97) (.tmp 99) (.const (.bool false)), none⟩]) (.cond (.tmp 100)
    (.seq (.region [⟨some 102, .load true 3 (.tmp 2), none⟩, ⟨some 103, .mv (.tmp 8), none⟩, ⟨some 104, .bin .sub (.tmp 103) (.const (.int .i64 1)), none⟩, ⟨some 105, .mv (.tmp 10),
    none⟩, ⟨some 106, .bin .sub (.tmp 105) (.const (.int .i64 1)), none⟩, ⟨some 107, .call (.func 42) [(.tmp 102), (.tmp 104), (.tmp 106)], none⟩, ⟨some 101, .mv (.tmp 107), none⟩,
    ⟨some 108, .ext (.tmp 101) 0, none⟩, ⟨some 109, .ext (.tmp 101) 1, none⟩, ⟨some 12, .mv (.tmp 108), none⟩, ⟨some 13, .mv (.tmp 109), none⟩]) (.region [⟨some 110, .mv (.tmp 7),
    none⟩, ⟨some 111, .mv (.tmp 110), none⟩, ⟨some 112, .mv (.tmp 13), some (111, true)⟩, ⟨some 113, .un .not (.tmp 112), some (111, true)⟩, ⟨some 114, .mv (.tmp 113), some (111,
    true)⟩, ⟨some 115, .mv (.tmp 11), some (114, false)⟩, ⟨some 116, .mv (.tmp 1), some (114, false)⟩, ⟨some 117, .mv (.tmp 8), some (114, false)⟩, ⟨some 118, .bin .sub (.tmp 117)
    (.const (.int .i64 1)), some (114, false)⟩, ⟨some 119, .idx 1 (.tmp 116) (.tmp 118), some (114, false)⟩, ⟨some 120, .load false 1 (.tmp 119), some (114, false)⟩, ⟨some 121, .mv
    (.tmp 10), some (114, false)⟩, ⟨some 122, .bin .sub (.tmp 121) (.const (.int .i64 1)), some (114, false)⟩, ⟨some 123, .idx 1 (.tmp 120) (.tmp 122), some (114, false)⟩, ⟨some
    124, .load false 1 (.tmp 123), some (114, false)⟩, ⟨some 125, .mv (.tmp 12), some (114, false)⟩, ⟨some 126, .bin .add (.tmp 124) (.tmp 125), some (114, false)⟩, ⟨some 127, .bin
    .leq (.tmp 115) (.tmp 126), some (114, false)⟩, ⟨some 128, .pick (.tmp 114) (.const (.bool true)) (.tmp 127), some (111, true)⟩, ⟨some 129, .pick (.tmp 111) (.tmp 128) (.const
    (.bool false)), none⟩, ⟨some 7, .mv (.tmp 129), none⟩])) .skip))))) (.region [⟨some 130, .bin .add (.tmp 52) (.const (.int .i64 1)), none⟩, ⟨some 52, .mv (.tmp 130),
    none⟩]))))))))) (.region [⟨some 131, .bin .add (.tmp 45) (.const (.int .i64 1)), none⟩, ⟨some 45, .mv (.tmp 131), none⟩]))))))) (.seq (.region [⟨some 132, .mv (.tmp 7), none⟩,
    ⟨some 133, .call (.func 41) [(.tmp 132), (.const (.int .i64 19))], none⟩, ⟨some 4, .mv (.tmp 133), none⟩]) .ret))))))
theorem low43 : lowF Try.prog [2] Try.f43 = some (134, lc43.strip, [.tmp 4]) := by kernel_rfl
theorem fn43 : FnOk Try.prog 43 134 lc43 [.tmp 4] := ⟨Try.call43, [2], _, Try.func43, low43⟩
/-- moonpool/moonpoolref09.CopyRoute -/
def lc44 : LCode :=
  (.seq (.region [⟨some 2, .mv (.const (.slice none 0 0)), none⟩]) (.seq (.region [⟨some 3, .lit false 99 2 [], none⟩, ⟨some 4, .mv (.tmp 0), none⟩, ⟨some 5, .append false 99 2 16
    (.tmp 3) (.tmp 4), none⟩, ⟨some 2, .mv (.tmp 5), none⟩]) .ret))
theorem low44 : lowF Try.prog [] Try.f44 = some (6, lc44.strip, [.tmp 2]) := by kernel_rfl
theorem fn44 : FnOk Try.prog 44 6 lc44 [.tmp 2] := ⟨Try.call44, [], _, Try.func44, low44⟩
/-- moonpool/moonpoolbase.CopyLists -/
def lc45 : LCode :=
  (.seq (.region [⟨some 2, .mv (.const (.slice none 0 0)), none⟩]) (.seq (.region [⟨some 3, .mv (.const (.slice none 0 0)), none⟩]) (.seq (.seq (.region [⟨some 4, .mv (.const (.int
    .i64 0)), none⟩]) (.block 0 (.loop (.seq (.seq (.region [⟨some 5, .mv (.tmp 4), none⟩, ⟨some 6, .mv (.tmp 0), none⟩, ⟨some 7, .len (.tmp 6), none⟩, ⟨some 8, .bin .lss (.tmp 5)
    (.tmp 7), none⟩]) (.cond (.tmp 8) .skip (.exit 0))) (.seq (.block 1 (.region [⟨some 11, .mv (.tmp 3), none⟩, ⟨some 12, .mv (.tmp 0), none⟩, ⟨some 13, .mv (.tmp 4), none⟩, ⟨some
    14, .idx 1 (.tmp 12) (.tmp 13), none⟩, ⟨some 15, .load false 1 (.tmp 14), none⟩, ⟨some 16, .call (.func 82) [(.tmp 15)], none⟩, ⟨some 17, .lit false 26 1 [(.tmp 16)], none⟩,
    ⟨some 18, .append true 26 1 24 (.tmp 11) (.tmp 17), none⟩, ⟨some 3, .mv (.tmp 18), none⟩])) (.region [⟨some 9, .mv (.tmp 4), none⟩, ⟨some 10, .bin .add (.tmp 9) (.const (.int
    .i64 1)), none⟩, ⟨some 4, .mv (.tmp 10), none⟩])))))) (.seq (.region [⟨some 19, .mv (.tmp 3), none⟩, ⟨some 2, .mv (.tmp 19), none⟩]) .ret))))
theorem low45 : lowF Try.prog [18] Try.f45 = some (20, lc45.strip, [.tmp 2]) := by kernel_rfl
theorem fn45 : FnOk Try.prog 45 20 lc45 [.tmp 2] := ⟨Try.call45, [18], _, Try.func45, low45⟩
end Go.Pw

set_option linter.unusedVariables false
set_option maxHeartbeats 2000000
set_option maxRecDepth 100000
namespace Go.Pw
open Go Go.Proofs
/-- moonpool/survey.SpansIn$1 -/
def lc74 : LCode :=
  (.seq (.region [⟨some 1, .boxS (.tmp 0), none⟩, ⟨some 2, .mv (.const (.int .i64 0)), none⟩]) (.seq (.region [⟨some 3, .fld 0 (.tmp 1), none⟩, ⟨some 4, .load false 1 (.tmp 3),
    none⟩, ⟨some 2, .mv (.tmp 4), none⟩]) .ret))
theorem low74 : lowF Try.prog [1] Try.f74 = some (5, lc74.strip, [.tmp 2]) := by kernel_rfl
theorem fn74 : FnOk Try.prog 74 5 lc74 [.tmp 2] := ⟨Try.call74, [1], _, Try.func74, low74⟩
/-- moonpool/survey.featuresErr -/
def lc75 : LCode :=
  (.seq (.region [⟨some 2, .mv (.const (.int .i64 0)), none⟩]) (.seq (.region [⟨some 6, .mv (.tmp 0), none⟩, ⟨some 7, .call (.func 102) [(.tmp 6)], none⟩, ⟨some 5, .mv (.tmp 7),
    none⟩, ⟨some 8, .ext (.tmp 5) 0, none⟩, ⟨some 9, .ext (.tmp 5) 1, none⟩, ⟨some 3, .mv (.tmp 8), none⟩, ⟨some 4, .mv (.tmp 9), none⟩]) (.seq (.region [⟨some 10, .mv (.tmp 4),
    none⟩, ⟨some 2, .mv (.tmp 10), none⟩]) .ret)))
theorem low75 : lowF Try.prog [] Try.f75 = some (11, lc75.strip, [.tmp 2]) := by kernel_rfl
theorem fn75 : FnOk Try.prog 75 11 lc75 [.tmp 2] := ⟨Try.call75, [], _, Try.func75, low75⟩
/-- moonpool/survey.within -/
def lc76 : LCode :=
  (.seq (.region [⟨some 6, .mv (.const (.bool false)), none⟩]) (.seq (.region [⟨some 7, .mv (.tmp 1), none⟩, ⟨some 8, .mv (.tmp 0), none⟩, ⟨some 9, .bin .leq (.tmp 7) (.tmp 8),
    none⟩, ⟨some 10, .mv (.tmp 9), none⟩, ⟨some 11, .mv (.tmp 0), some (10, true)⟩, ⟨some 12, .mv (.tmp 2), some (10, true)⟩, ⟨some 13, .bin .leq (.tmp 11) (.tmp 12), some (10,
    true)⟩, ⟨some 14, .pick (.tmp 10) (.tmp 13) (.const (.bool false)), none⟩, ⟨some 6, .mv (.tmp 14), none⟩]) .ret))
theorem low76 : lowF Try.prog [] Try.f76 = some (15, lc76.strip, [.tmp 6]) := by kernel_rfl
theorem fn76 : FnOk Try.prog 76 15 lc76 [.tmp 6] := ⟨Try.call76, [], _, Try.func76, low76⟩
/-- (moonpool/survey.surveys).next -/
def lc77 : LCode :=
  (.seq (.region [⟨some 1, .boxS (.tmp 0), none⟩, ⟨some 2, .mv (.const (.int .i64 0)), none⟩, ⟨some 3, .mv (.const (.int .i64 0)), none⟩, ⟨some 4, .mv (.const (.bool false)),
    none⟩]) (.seq (.region [⟨some 10, .load true 3 (.tmp 1), none⟩, ⟨some 11, .call (.func 36) [(.tmp 10)], none⟩, ⟨some 5, .mv (.tmp 11), none⟩]) (.seq (.seq (.region [⟨some 12,
    .mv (.tmp 5), none⟩, ⟨some 13, .fld 0 (.tmp 1), none⟩, ⟨some 14, .load false 1 (.tmp 13), none⟩, ⟨some 15, .len (.tmp 14), none⟩, ⟨some 16, .fld 1 (.tmp 1), none⟩, ⟨some 17,
    .load false 1 (.tmp 16), none⟩, ⟨some 18, .len (.tmp 17), none⟩, ⟨some 19, .bin .add (.tmp 15) (.tmp 18), none⟩, ⟨some 20, .fld 2 (.tmp 1), none⟩, ⟨some 21, .load false 1 (.tmp
    20), none⟩, ⟨some 22, .bin .mul (.tmp 19) (.tmp 21), none⟩, ⟨some 23, .bin .eql (.tmp 12) (.tmp 22), none⟩]) (.cond (.tmp 23) (.seq (.region [⟨some 2, .mv (.const (.int .i64
    0)), none⟩, ⟨some 3, .mv (.const (.int .i64 0)), none⟩, ⟨some 4, .mv (.const (.bool false)), none⟩]) .ret) .skip)) (.seq (.seq (.region [⟨some 24, .fld 0 (.tmp 1), none⟩, ⟨some
    25, .load false 1 (.tmp 24), none⟩, ⟨some 26, .len (.tmp 25), none⟩, ⟨some 27, .mv (.const (.int .i64 0)), none⟩]) (.block 0 (.loop (.seq (.region [⟨some 28, .bin .lss (.tmp 27)
    (.tmp 26), none⟩]) (.seq (.cond (.tmp 28) .skip (.exit 0)) (.seq (.block 1 (.seq (.region [⟨some 29, .mv (.tmp 27), none⟩, ⟨some 6, .mv (.tmp 29), none⟩]) (.seq (.region [⟨some
    30, .fld 1 (.tmp 1), none⟩, ⟨some 31, .load false 1 (.tmp 30), none⟩, ⟨some 32, .len (.tmp 31), none⟩, ⟨some 33, .mv (.const (.int .i64 0)), none⟩]) (.block 2 (.loop (.seq
    (.region [⟨some 34, .bin .lss (.tmp 33) (.tmp 32), none⟩]) (.seq (.cond (.tmp 34) .skip (.exit 2)) (.seq (.block 3 (.seq (.region [⟨some 35, .mv (.tmp 33), none⟩, ⟨some 7, .mv
    (.tmp 35), none⟩]) (.seq (.region [⟨some 37, .load true 3 (.tmp 1), none⟩, ⟨some 38, .mv (.tmp 6), none⟩, ⟨some 39, .mv (.tmp 7), none⟩, ⟨some 40, .call (.func 42) [(.tmp 37),
    (.tmp 38), (.tmp 39)], none⟩, ⟨some 36, .mv (.tmp 40), none⟩, ⟨some 41, .ext (.tmp 36) 0, none⟩, ⟨some 42, .ext (.tmp 36) 1, none⟩, ⟨some 8, .mv (.tmp 41), none⟩, ⟨some 9, .mv
    (.tmp 42), none⟩]) (.seq (.regionD [⟨some 43, .mv (.tmp 9), none⟩, ⟨some 44, .mv (.tmp 43), none⟩, ⟨some 45, .mv (.tmp 6), some (44, true)⟩, ⟨some 46, .mv (.tmp 7), some (44,
    true)⟩, ⟨some 47, .bin .add (.tmp 45) (.tmp 46), some (44, true)⟩, ⟨some 48, .fld 2 (.tmp 1), some (44, true)⟩, ⟨some 49, .load false 1 (.tmp 48), some (44, true)⟩, ⟨some 50,
    .bin .mul (.tmp 47) (.tmp 49), some (44, true)⟩, ⟨some 51, .mv (.tmp 8), some (44, true)⟩, ⟨some 52, .bin .add (.tmp 50) (.tmp 51), some (44, true)⟩, ⟨some 53, .load true 3
    (.tmp 1), some (44, true)⟩, ⟨some 54, .mv (.tmp 6), some (44, true)⟩, ⟨some 55, .bin .add (.tmp 54) (.const (.int .i64 1)), some (44, true)⟩, ⟨some 56, .mv (.tmp 7), some (44,
    true)⟩, ⟨some 57, .bin .add (.tmp 56) (.const (.int .i64 1)), some (44, true)⟩, ⟨some 58, .call (.func 78) [(.tmp 53), (.tmp 55), (.tmp 57)], some (44, true)⟩, ⟨some 59, .call
    (.func 36) [(.tmp 58)], some (44, true)⟩, ⟨some 60, .bin .add (.tmp 52) (.tmp 59), some (44, true)⟩, ⟨some 61, .mv (.tmp 5), some (44, true)⟩, ⟨some 62, .bin .eql (.tmp 60)
    (.tmp 61), some (44, true)⟩, ⟨some 63, .pick (.tmp 44) (.tmp 62) (.const (.bool false)), none⟩] [0, 1, 3, 3, 15, 3, 35, 127, 3, 511, 3, 3, 2051, 3, 8195, 31747, 64515, 131071,
    3, 524287, 1048575] [0, 1, 2, 3, 4, 5, 6, 7, 8, 9, 10, 11, 12, 13, 14, 15, 16, 17, 18, 19, 20]) (.cond (.tmp 63) (.seq (.region [⟨some 64, .mv (.tmp 6), none⟩, ⟨some 65, .mv
    (.tmp 7), none⟩, ⟨some 2, .mv (.tmp 64), none⟩, ⟨some 3, .mv (.tmp 65), none⟩, ⟨some 4, .mv (.const (.bool true)), none⟩]) .ret) .skip))))) (.region [⟨some 66, .bin .add (.tmp
    33) (.const (.int .i64 1)), none⟩, ⟨some 33, .mv (.tmp 66), none⟩]))))))))) (.region [⟨some 67, .bin .add (.tmp 27) (.const (.int .i64 1)), none⟩, ⟨some 27, .mv (.tmp 67),
    none⟩]))))))) (.seq (.region [⟨some 2, .mv (.const (.int .i64 0)), none⟩, ⟨some 3, .mv (.const (.int .i64 0)), none⟩, ⟨some 4, .mv (.const (.bool false)), none⟩]) .ret)))))
theorem low77 : lowF Try.prog [1] Try.f77 = some (68, lc77.strip, [.tmp 2, .tmp 3, .tmp 4]) := by kernel_rfl
theorem fn77 : FnOk Try.prog 77 68 lc77 [.tmp 2, .tmp 3, .tmp 4] := ⟨Try.call77, [1], _, Try.func77, low77⟩
/-- (moonpool/survey.surveys).rest -/
def lc78 : LCode :=
  (.seq (.region [⟨some 3, .boxS (.tmp 0), none⟩, ⟨some 6, .alloc [(.slice none 0 0), (.slice none 0 0), (.int .i64 0)], none⟩]) (.seq (.regionD [⟨some 7, .fld 0 (.tmp 3), none⟩,
    ⟨some 8, .load false 1 (.tmp 7), none⟩, ⟨some 9, .mv (.tmp 1), none⟩, ⟨some 10, .slc 5 (.tmp 8) (some (.tmp 9)) none, none⟩, ⟨some 11, .fld 1 (.tmp 3), none⟩, ⟨some 12, .load
    false 1 (.tmp 11), none⟩, ⟨some 13, .mv (.tmp 2), none⟩, ⟨some 14, .slc 5 (.tmp 12) (some (.tmp 13)) none, none⟩, ⟨some 15, .fld 2 (.tmp 3), none⟩, ⟨some 16, .load false 1 (.tmp
    15), none⟩, ⟨some 17, .build [(.slice none 0 0), (.slice none 0 0), (.int .i64 0)] [(0, 1, (.tmp 10)), (1, 1, (.tmp 14)), (2, 1, (.tmp 16))], none⟩, ⟨none, .store 3 (.tmp 6)
    (.tmp 17), none⟩] [0, 1, 0, 7, 0, 16, 0, 112, 0, 256, 1023, 2047] [0, 1, 2, 3, 4, 5, 6, 7, 8, 9, 10, 11]) .ret))
theorem low78 : lowF Try.prog [3] Try.f78 = some (18, lc78.strip, [.cell 6 true 3]) := by kernel_rfl
theorem fn78 : FnOk Try.prog 78 18 lc78 [.cell 6 true 3] := ⟨Try.call78, [3], _, Try.func78, low78⟩
/-- slices.ContainsFunc[[][]int,[]int] -/
def lc79 : LCode :=
  (.seq (.region [⟨some 4, .mv (.const (.bool false)), none⟩]) (.seq (.region [⟨some 5, .mv (.tmp 0), none⟩, ⟨some 6, .mv (.tmp 1), none⟩, ⟨some 7, .call (.func 103) [(.tmp 5),
    (.tmp 6)], none⟩, ⟨some 8, .bin .geq (.tmp 7) (.const (.int .i64 0)), none⟩, ⟨some 4, .mv (.tmp 8), none⟩]) .ret))
theorem low79 : lowF Try.prog [] Try.f79 = some (9, lc79.strip, [.tmp 4]) := by kernel_rfl
theorem fn79 : FnOk Try.prog 79 9 lc79 [.tmp 4] := ⟨Try.call79, [], _, Try.func79, low79⟩
/-- (moonpool/survey.surveys).hold$1 -/
def lc80 : LCode :=
  (.seq (.region [⟨some 3, .mv (.const (.bool false)), none⟩]) (.seq (.region [⟨some 4, .mv (.tmp 0), none⟩, ⟨some 5, .len (.tmp 4), none⟩, ⟨some 6, .fld 1 (.tmp 1), none⟩, ⟨some 7,
    .load false 1 (.tmp 6), none⟩, ⟨some 8, .len (.tmp 7), none⟩, ⟨some 9, .bin .add (.tmp 8) (.const (.int .i64 1)), none⟩, ⟨some 10, .bin .neq (.tmp 5) (.tmp 9), none⟩, ⟨some 3,
    .mv (.tmp 10), none⟩]) .ret))
theorem low80 : lowF Try.prog [] Try.f80 = some (11, lc80.strip, [.tmp 3]) := by kernel_rfl
theorem fn80 : FnOk Try.prog 80 11 lc80 [.tmp 3] := ⟨Try.call80, [], _, Try.func80, low80⟩
/-- slices.Concat[[]int,int] -/
def lc81 : LCode :=
  (.seq (.region [⟨some 2, .mv (.const (.slice none 0 0)), none⟩]) (.seq (.region [⟨some 3, .mv (.const (.int .i64 0)), none⟩]) (.seq (.seq (.region [⟨some 9, .mv (.tmp 0), none⟩,
    ⟨some 10, .len (.tmp 9), none⟩, ⟨some 11, .mv (.const (.int .i64 0)), none⟩]) (.block 0 (.loop (.seq (.region [⟨some 12, .bin .lss (.tmp 11) (.tmp 10), none⟩]) (.seq (.cond
    (.tmp 12) .skip (.exit 0)) (.seq (.block 1 (.seq (.region [⟨some 13, .idx 1 (.tmp 9) (.tmp 11), none⟩, ⟨some 14, .load false 1 (.tmp 13), none⟩, ⟨some 5, .mv (.tmp 14), none⟩])
    (.seq (.region [⟨some 15, .mv (.tmp 3), none⟩, ⟨some 16, .mv (.tmp 5), none⟩, ⟨some 17, .len (.tmp 16), none⟩, ⟨some 18, .bin .add (.tmp 15) (.tmp 17), none⟩, ⟨some 3, .mv (.tmp
    18), none⟩]) (.seq (.region [⟨some 19, .mv (.tmp 3), none⟩, ⟨some 20, .bin .lss (.tmp 19) (.const (.int .i64 0)), none⟩]) (.cond (.tmp 20) (.region [⟨some 21, .bad, none⟩,
    ⟨none, .bad, none⟩]) .skip))))) (.region [⟨some 22, .bin .add (.tmp 11) (.const (.int .i64 1)), none⟩, ⟨some 11, .mv (.tmp 22), none⟩]))))))) (.seq (.region [⟨some 23, .mv (.tmp
    3), none⟩, ⟨some 24, .call (.func 104) [(.const (.slice none 0 0)), (.tmp 23)], none⟩, ⟨some 6, .mv (.tmp 24), none⟩]) (.seq (.seq (.region [⟨some 25, .mv (.tmp 0), none⟩, ⟨some
    26, .len (.tmp 25), none⟩, ⟨some 27, .mv (.const (.int .i64 0)), none⟩]) (.block 2 (.loop (.seq (.region [⟨some 28, .bin .lss (.tmp 27) (.tmp 26), none⟩]) (.seq (.cond (.tmp 28)
    .skip (.exit 2)) (.seq (.block 3 (.seq (.region [⟨some 29, .idx 1 (.tmp 25) (.tmp 27), none⟩, ⟨some 30, .load false 1 (.tmp 29), none⟩, ⟨some 8, .mv (.tmp 30), none⟩]) (.region
    [⟨some 31, .mv (.tmp 6), none⟩, ⟨some 32, .mv (.tmp 8), none⟩, ⟨some 33, .append true 3 1 8 (.tmp 31) (.tmp 32), none⟩, ⟨some 6, .mv (.tmp 33), none⟩]))) (.region [⟨some 34,
    .bin .add (.tmp 27) (.const (.int .i64 1)), none⟩, ⟨some 27, .mv (.tmp 34), none⟩]))))))) (.seq (.region [⟨some 35, .mv (.tmp 6), none⟩, ⟨some 2, .mv (.tmp 35), none⟩])
    .ret))))))
theorem low81 : lowF Try.prog [33] Try.f81 = some (36, lc81.strip, [.tmp 2]) := by kernel_rfl
theorem fn81 : FnOk Try.prog 81 36 lc81 [.tmp 2] := ⟨Try.call81, [33], _, Try.func81, low81⟩
/-- moonpool/moonpoolbase.CopyInts -/
def lc82 : LCode :=
  (.seq (.region [⟨some 2, .mv (.const (.slice none 0 0)), none⟩]) (.seq (.region [⟨some 3, .lit false 3 1 [], none⟩, ⟨some 4, .mv (.tmp 0), none⟩, ⟨some 5, .append false 3 1 8
    (.tmp 3) (.tmp 4), none⟩, ⟨some 2, .mv (.tmp 5), none⟩]) .ret))
theorem low82 : lowF Try.prog [] Try.f82 = some (6, lc82.strip, [.tmp 2]) := by kernel_rfl
theorem fn82 : FnOk Try.prog 82 6 lc82 [.tmp 2] := ⟨Try.call82, [], _, Try.func82, low82⟩
/-- moonpool/survey.pipeErr -/
def lc98 : LCode :=
  (.seq (.region [⟨some 4, .mv (.const (.int .i64 0)), none⟩]) (.seq (.region [⟨some 5, .mv (.tmp 0), none⟩, ⟨some 6, .call (.func 117) [(.tmp 5)], none⟩, ⟨some 7, .mv (.tmp 1),
    none⟩, ⟨some 8, .call (.func 76) [(.tmp 7), (.const (.int .i64 1)), (.const (.int .i64 1000))], none⟩, ⟨some 9, .call (.func 41) [(.tmp 8), (.const (.int .i64 2))], none⟩, ⟨some
    10, .lit false 38 1 [(.tmp 6), (.tmp 9)], none⟩, ⟨some 11, .call (.func 39) [(.tmp 10)], none⟩, ⟨some 4, .mv (.tmp 11), none⟩]) .ret))
theorem low98 : lowF Try.prog [] Try.f98 = some (12, lc98.strip, [.tmp 4]) := by kernel_rfl
theorem fn98 : FnOk Try.prog 98 12 lc98 [.tmp 4] := ⟨Try.call98, [], _, Try.func98, low98⟩
/-- moonpool/survey.runs -/
def lc99 : LCode :=
  (.seq (.region [⟨some 6, .mv (.const (.slice none 0 0)), none⟩]) (.seq (.region [⟨some 7, .mv (.const (.slice none 0 0)), none⟩]) (.seq (.seq (.region [⟨some 10, .mv (.tmp 0),
    none⟩, ⟨some 8, .mv (.tmp 10), none⟩]) (.block 0 (.loop (.seq (.seq (.region [⟨some 11, .mv (.tmp 8), none⟩, ⟨some 12, .mv (.tmp 1), none⟩, ⟨some 13, .bin .leq (.tmp 11) (.tmp
    12), none⟩]) (.cond (.tmp 13) .skip (.exit 0))) (.seq (.block 1 (.seq (.region [⟨some 16, .mv (.tmp 7), none⟩, ⟨some 17, .len (.tmp 16), none⟩, ⟨some 9, .mv (.tmp 17), none⟩])
    (.block 2 (.seq (.region [⟨some 25, .mv (.tmp 2), none⟩, ⟨some 26, .mv (.tmp 8), none⟩, ⟨some 27, .call (.tmp 25) [(.tmp 26)], none⟩, ⟨some 28, .un .not (.tmp 27), none⟩, ⟨some
    24, .mv (.tmp 28), none⟩]) (.cond (.tmp 24) .skip (.seq (.region [⟨some 30, .mv (.tmp 9), none⟩, ⟨some 31, .bin .gtr (.tmp 30) (.const (.int .i64 0)), none⟩, ⟨some 32, .mv (.tmp
    31), none⟩, ⟨some 33, .mv (.tmp 7), some (32, true)⟩, ⟨some 34, .mv (.tmp 9), some (32, true)⟩, ⟨some 35, .bin .sub (.tmp 34) (.const (.int .i64 1)), some (32, true)⟩, ⟨some 36,
    .idx 2 (.tmp 33) (.tmp 35), some (32, true)⟩, ⟨some 37, .fld 1 (.tmp 36), some (32, true)⟩, ⟨some 38, .load false 1 (.tmp 37), some (32, true)⟩, ⟨some 39, .mv (.tmp 8), some
    (32, true)⟩, ⟨some 40, .bin .sub (.tmp 39) (.const (.int .i64 1)), some (32, true)⟩, ⟨some 41, .bin .eql (.tmp 38) (.tmp 40), some (32, true)⟩, ⟨some 42, .pick (.tmp 32) (.tmp
    41) (.const (.bool false)), none⟩, ⟨some 29, .mv (.tmp 42), none⟩]) (.cond (.tmp 29) (.region [⟨some 43, .mv (.tmp 7), none⟩, ⟨some 44, .mv (.tmp 9), none⟩, ⟨some 45, .bin .sub
    (.tmp 44) (.const (.int .i64 1)), none⟩, ⟨some 46, .mv (.tmp 8), none⟩, ⟨some 47, .idx 2 (.tmp 43) (.tmp 45), none⟩, ⟨some 48, .fld 1 (.tmp 47), none⟩, ⟨none, .store 1 (.tmp 48)
    (.tmp 46), none⟩]) (.region [⟨some 18, .mv (.tmp 7), none⟩, ⟨some 19, .mv (.tmp 8), none⟩, ⟨some 20, .mv (.tmp 8), none⟩, ⟨some 21, .build [(.int .i64 0), (.int .i64 0)] [(0, 1,
    (.tmp 19)), (1, 1, (.tmp 20))], none⟩, ⟨some 22, .lit false 31 2 [(.tmp 21)], none⟩, ⟨some 23, .append true 31 2 16 (.tmp 18) (.tmp 22), none⟩, ⟨some 7, .mv (.tmp 23),
    none⟩])))))))) (.region [⟨some 14, .mv (.tmp 8), none⟩, ⟨some 15, .bin .add (.tmp 14) (.const (.int .i64 1)), none⟩, ⟨some 8, .mv (.tmp 15), none⟩])))))) (.seq (.region [⟨some
    49, .mv (.tmp 7), none⟩, ⟨some 6, .mv (.tmp 49), none⟩]) .ret))))
theorem low99 : lowF Try.prog [23] Try.f99 = some (50, lc99.strip, [.tmp 6]) := by kernel_rfl
theorem fn99 : FnOk Try.prog 99 50 lc99 [.tmp 6] := ⟨Try.call99, [23], _, Try.func99, low99⟩
/-- moonpool/survey.spans$1 -/
def lc100 : LCode :=
  (.seq (.region [⟨some 5, .mv (.const (.bool false)), none⟩]) (.seq (.regionD [⟨some 6, .load false 1 (.tmp 1), none⟩, ⟨some 7, .load false 1 (.tmp 2), none⟩, ⟨some 8, .mv (.tmp
    0), none⟩, ⟨some 9, .idx 5 (.tmp 7) (.tmp 8), none⟩, ⟨some 10, .load true 5 (.tmp 9), none⟩, ⟨some 11, .load false 1 (.tmp 3), none⟩, ⟨some 12, .call (.func 101) [(.tmp 10),
    (.tmp 11)], none⟩, ⟨some 13, .call (.tmp 6) [(.tmp 12)], none⟩, ⟨some 14, .bin .gtr (.tmp 13) (.const (.int .i64 0)), none⟩, ⟨some 5, .mv (.tmp 14), none⟩] [0, 0, 0, 6, 14, 0,
    62, 127, 255, 511] [0, 1, 2, 3, 4, 5, 6, 7, 8, 9]) .ret))
theorem low100 : lowF Try.prog [] Try.f100 = some (15, lc100.strip, [.tmp 5]) := by kernel_rfl
theorem fn100 : FnOk Try.prog 100 15 lc100 [.tmp 5] := ⟨Try.call100, [], _, Try.func100, low100⟩
/-- moonpool/survey.gap -/
def lc101 : LCode :=
  (.seq (.region [⟨some 2, .boxS (.tmp 0), none⟩, ⟨some 4, .alloc [(.int .i64 0), (.int .i64 0)], none⟩]) (.seq (.region [⟨some 5, .fld 1 (.tmp 2), none⟩, ⟨some 6, .load true 2
    (.tmp 5), none⟩, ⟨some 7, .fld 3 (.tmp 2), none⟩, ⟨some 8, .load true 2 (.tmp 7), none⟩, ⟨some 9, .call (.func 118) [(.tmp 6), (.tmp 8)], none⟩, ⟨some 10, .mv (.tmp 1), none⟩,
    ⟨some 11, .mv (.tmp 1), none⟩, ⟨some 12, .build [(.int .i64 0), (.int .i64 0)] [(0, 1, (.tmp 10)), (1, 1, (.tmp 11))], none⟩, ⟨some 13, .call (.func 118) [(.tmp 9), (.tmp 12)],
    none⟩, ⟨none, .store 2 (.tmp 4) (.tmp 13), none⟩]) .ret))
theorem low101 : lowF Try.prog [2] Try.f101 = some (14, lc101.strip, [.cell 4 true 2]) := by kernel_rfl
theorem fn101 : FnOk Try.prog 101 14 lc101 [.cell 4 true 2] := ⟨Try.call101, [2], _, Try.func101, low101⟩
/-- moonpool/survey.CheckFeatures -/
def lc102 : LCode :=
  (.seq (.region [⟨some 2, .mv (.const (.int .i64 0)), none⟩, ⟨some 3, .mv (.const (.int .i64 0)), none⟩]) (.seq (.seq (.region [⟨some 5, .mv (.tmp 0), none⟩, ⟨some 6, .len (.tmp
    5), none⟩, ⟨some 7, .bin .gtr (.tmp 6) (.const (.int .i64 8)), none⟩]) (.cond (.tmp 7) (.seq (.region [⟨some 2, .mv (.const (.int .i64 0)), none⟩, ⟨some 3, .mv (.const (.int
    .i64 8)), none⟩]) .ret) .skip)) (.seq (.region [⟨some 4, .alloc [(.int .i64 0)], none⟩, ⟨none, .store 1 (.tmp 4) (.const (.int .i64 0)), none⟩]) (.seq (.region [⟨some 8, .mv
    (.tmp 0), none⟩, ⟨some 9, .mkfn 120 [(.tmp 4)], none⟩, ⟨some 10, .call (.func 119) [(.tmp 8), (.tmp 9)], none⟩, ⟨some 11, .ext (.tmp 10) 0, none⟩, ⟨some 12, .ext (.tmp 10) 1,
    none⟩, ⟨some 2, .mv (.tmp 11), none⟩, ⟨some 3, .mv (.tmp 12), none⟩]) .ret))))
theorem low102 : lowF Try.prog [] Try.f102 = some (13, lc102.strip, [.tmp 2, .tmp 3]) := by kernel_rfl
theorem fn102 : FnOk Try.prog 102 13 lc102 [.tmp 2, .tmp 3] := ⟨Try.call102, [], _, Try.func102, low102⟩
/-- slices.IndexFunc[[][]int,[]int] -/
def lc103 : LCode :=
  (.seq (.region [⟨some 4, .mv (.const (.int .i64 0)), none⟩]) (.seq (.seq (.region [⟨some 6, .mv (.tmp 0), none⟩, ⟨some 7, .len (.tmp 6), none⟩, ⟨some 8, .mv (.const (.int .i64
    0)), none⟩]) (.block 0 (.loop (.seq (.region [⟨some 9, .bin .lss (.tmp 8) (.tmp 7), none⟩]) (.seq (.cond (.tmp 9) .skip (.exit 0)) (.seq (.block 1 (.seq (.region [⟨some 10, .mv
    (.tmp 8), none⟩, ⟨some 5, .mv (.tmp 10), none⟩]) (.seq (.region [⟨some 11, .mv (.tmp 1), none⟩, ⟨some 12, .mv (.tmp 0), none⟩, ⟨some 13, .mv (.tmp 5), none⟩, ⟨some 14, .idx 1
    (.tmp 12) (.tmp 13), none⟩, ⟨some 15, .load false 1 (.tmp 14), none⟩, ⟨some 16, .call (.tmp 11) [(.tmp 15)], none⟩]) (.cond (.tmp 16) (.seq (.region [⟨some 17, .mv (.tmp 5),
    none⟩, ⟨some 4, .mv (.tmp 17), none⟩]) .ret) .skip)))) (.region [⟨some 18, .bin .add (.tmp 8) (.const (.int .i64 1)), none⟩, ⟨some 8, .mv (.tmp 18), none⟩]))))))) (.seq (.region
    [⟨some 4, .mv (.const (.int .i64 (-1))), none⟩]) .ret)))
theorem low103 : lowF Try.prog [] Try.f103 = some (19, lc103.strip, [.tmp 4]) := by kernel_rfl
theorem fn103 : FnOk Try.prog 103 19 lc103 [.tmp 4] := ⟨Try.call103, [], _, Try.func103, low103⟩
/-- slices.Grow[[]int,int] -/
def lc104 : LCode :=
  (.seq (.region [⟨some 4, .mv (.const (.slice none 0 0)), none⟩]) (.seq (.seq (.region [⟨some 5, .mv (.tmp 1), none⟩, ⟨some 6, .bin .lss (.tmp 5) (.const (.int .i64 0)), none⟩])
    (.cond (.tmp 6) (.region [⟨some 7, .bad, none⟩, ⟨none, .bad, none⟩]) .skip)) (.seq (.seq (.region [⟨some 8, .mv (.tmp 1), none⟩, ⟨some 9, .mv (.tmp 0), none⟩, ⟨some 10, .cap
    (.tmp 9), none⟩, ⟨some 11, .mv (.tmp 0), none⟩, ⟨some 12, .len (.tmp 11), none⟩, ⟨some 13, .bin .sub (.tmp 10) (.tmp 12), none⟩, ⟨some 14, .bin .sub (.tmp 8) (.tmp 13), none⟩,
    ⟨some 1, .mv (.tmp 14), none⟩]) (.seq (.region [⟨some 15, .mv (.tmp 1), none⟩, ⟨some 16, .bin .gtr (.tmp 15) (.const (.int .i64 0)), none⟩]) (.cond (.tmp 16) (.region [⟨some 17,
    .mv (.tmp 0), none⟩, ⟨some 18, .mv (.tmp 0), none⟩, ⟨some 19, .cap (.tmp 18), none⟩, ⟨some 20, .slc 1 (.tmp 17) none (some (.tmp 19)), none⟩, ⟨some 21, .mv (.tmp 1), none⟩,
    ⟨some 22, .appendN 3 1 8 [(.int .i64 0)] (.tmp 20) (.tmp 21), none⟩, ⟨some 23, .mv (.tmp 0), none⟩, ⟨some 24, .len (.tmp 23), none⟩, ⟨some 25, .slc 1 (.tmp 22) none (some (.tmp
    24)), none⟩, ⟨some 0, .mv (.tmp 25), none⟩]) .skip))) (.seq (.region [⟨some 26, .mv (.tmp 0), none⟩, ⟨some 4, .mv (.tmp 26), none⟩]) .ret))))
theorem low104 : lowF Try.prog [] Try.f104 = some (27, lc104.strip, [.tmp 4]) := by kernel_rfl
theorem fn104 : FnOk Try.prog 104 27 lc104 [.tmp 4] := ⟨Try.call104, [], _, Try.func104, low104⟩
end Go.Pw

set_option linter.unusedVariables false
set_option maxHeartbeats 2000000
set_option maxRecDepth 100000
namespace Go.Pw
open Go Go.Proofs
/-- moonpool/survey.stationsErr -/
def lc117 : LCode :=
  (.seq (.region [⟨some 2, .mv (.const (.int .i64 0)), none⟩]) (.seq (.region [⟨some 6, .mv (.tmp 0), none⟩, ⟨some 7, .call (.func 134) [(.tmp 6)], none⟩, ⟨some 5, .mv (.tmp 7),
    none⟩, ⟨some 8, .ext (.tmp 5) 0, none⟩, ⟨some 9, .ext (.tmp 5) 1, none⟩, ⟨some 3, .mv (.tmp 8), none⟩, ⟨some 4, .mv (.tmp 9), none⟩]) (.seq (.region [⟨some 10, .mv (.tmp 4),
    none⟩, ⟨some 2, .mv (.tmp 10), none⟩]) .ret)))
theorem low117 : lowF Try.prog [] Try.f117 = some (11, lc117.strip, [.tmp 2]) := by kernel_rfl
theorem fn117 : FnOk Try.prog 117 11 lc117 [.tmp 2] := ⟨Try.call117, [], _, Try.func117, low117⟩
/-- (moonpool/survey.span).minus -/
def lc118 : LCode :=
  (.seq (.region [⟨some 2, .boxS (.tmp 0), none⟩, ⟨some 3, .boxS (.tmp 1), none⟩, ⟨some 4, .alloc [(.int .i64 0), (.int .i64 0)], none⟩]) (.seq (.region [⟨some 5, .fld 0 (.tmp 2),
    none⟩, ⟨some 6, .load false 1 (.tmp 5), none⟩, ⟨some 7, .fld 1 (.tmp 3), none⟩, ⟨some 8, .load false 1 (.tmp 7), none⟩, ⟨some 9, .bin .sub (.tmp 6) (.tmp 8), none⟩, ⟨some 10,
    .fld 1 (.tmp 2), none⟩, ⟨some 11, .load false 1 (.tmp 10), none⟩, ⟨some 12, .fld 0 (.tmp 3), none⟩, ⟨some 13, .load false 1 (.tmp 12), none⟩, ⟨some 14, .bin .sub (.tmp 11) (.tmp
    13), none⟩, ⟨some 15, .build [(.int .i64 0), (.int .i64 0)] [(0, 1, (.tmp 9)), (1, 1, (.tmp 14))], none⟩, ⟨none, .store 2 (.tmp 4) (.tmp 15), none⟩]) .ret))
theorem low118 : lowF Try.prog [2, 3] Try.f118 = some (16, lc118.strip, [.cell 4 true 2]) := by kernel_rfl
theorem fn118 : FnOk Try.prog 118 16 lc118 [.cell 4 true 2] := ⟨Try.call118, [2, 3], _, Try.func118, low118⟩
/-- moonpool/survey.each[moonpool/api.SurveyFeature] -/
def lc119 : LCode :=
  (.seq (.region [⟨some 4, .mv (.const (.int .i64 0)), none⟩, ⟨some 5, .mv (.const (.int .i64 0)), none⟩]) (.seq (.seq (.region [⟨some 9, .mv (.tmp 0), none⟩, ⟨some 10, .len (.tmp
    9), none⟩, ⟨some 11, .mv (.const (.int .i64 0)), none⟩]) (.block 0 (.loop (.seq (.region [⟨some 12, .bin .lss (.tmp 11) (.tmp 10), none⟩]) (.seq (.cond (.tmp 12) .skip (.exit
    0)) (.seq (.block 1 (.seq (.region [⟨some 13, .mv (.tmp 11), none⟩, ⟨some 14, .idx 5 (.tmp 9) (.tmp 11), none⟩, ⟨some 15, .load true 5 (.tmp 14), none⟩, ⟨some 7, .alloc [(.int
    .i64 0), (.int .i64 0), (.int .i64 0), (.int .i64 0), (.int .i64 0)], none⟩, ⟨some 6, .mv (.tmp 13), none⟩, ⟨none, .store 5 (.tmp 7) (.tmp 15), none⟩]) (.seq (.region [⟨some 16,
    .mv (.tmp 1), none⟩, ⟨some 17, .mv (.tmp 6), none⟩, ⟨some 18, .load true 5 (.tmp 7), none⟩, ⟨some 19, .call (.tmp 16) [(.tmp 17), (.tmp 18)], none⟩, ⟨some 8, .mv (.tmp 19),
    none⟩]) (.seq (.region [⟨some 20, .mv (.tmp 8), none⟩, ⟨some 21, .bin .neq (.tmp 20) (.const (.int .i64 0)), none⟩]) (.cond (.tmp 21) (.seq (.region [⟨some 22, .mv (.tmp 6),
    none⟩, ⟨some 23, .mv (.tmp 8), none⟩, ⟨some 4, .mv (.tmp 22), none⟩, ⟨some 5, .mv (.tmp 23), none⟩]) .ret) .skip))))) (.region [⟨some 24, .bin .add (.tmp 11) (.const (.int .i64
    1)), none⟩, ⟨some 11, .mv (.tmp 24), none⟩]))))))) (.seq (.region [⟨some 4, .mv (.const (.int .i64 0)), none⟩, ⟨some 5, .mv (.const (.int .i64 0)), none⟩]) .ret)))
theorem low119 : lowF Try.prog [] Try.f119 = some (25, lc119.strip, [.tmp 4, .tmp 5]) := by kernel_rfl
theorem fn119 : FnOk Try.prog 119 25 lc119 [.tmp 4, .tmp 5] := ⟨Try.call119, [], _, Try.func119, low119⟩
/-- moonpool/survey.CheckFeatures$1 -/
def lc120 : LCode :=
  (.seq (.region [⟨some 4, .boxS (.tmp 1), none⟩, ⟨some 5, .mv (.const (.int .i64 0)), none⟩]) (.seq (.regionD [⟨some 9, .fld 0 (.tmp 4), none⟩, ⟨some 10, .load true 2 (.tmp 9),
    none⟩, ⟨some 11, .fld 3 (.tmp 4), none⟩, ⟨some 12, .load true 2 (.tmp 11), none⟩, ⟨some 6, .alloc [(.int .i64 0), (.int .i64 0)], none⟩, ⟨some 7, .alloc [(.int .i64 0), (.int
    .i64 0)], none⟩, ⟨none, .store 2 (.tmp 6) (.tmp 10), none⟩, ⟨none, .store 2 (.tmp 7) (.tmp 12), none⟩] [0, 1, 0, 4, 0, 0, 51, 127] [0, 1, 2, 3, 4, 5, 6, 7]) (.seq (.regionD
    [⟨some 13, .load true 2 (.tmp 6), none⟩, ⟨some 14, .call (.func 121) [(.tmp 13), (.const (.int .i64 0)), (.const (.int .i64 100000))], none⟩, ⟨some 15, .mv (.tmp 14), none⟩,
    ⟨some 16, .load true 2 (.tmp 7), some (15, true)⟩, ⟨some 17, .call (.func 121) [(.tmp 16), (.const (.int .i64 0)), (.const (.int .i64 10000))], some (15, true)⟩, ⟨some 18, .pick
    (.tmp 15) (.tmp 17) (.const (.bool false)), none⟩, ⟨some 19, .call (.func 41) [(.tmp 18), (.const (.int .i64 2))], none⟩, ⟨some 20, .load true 2 (.tmp 6), none⟩, ⟨some 21, .call
    (.func 122) [(.tmp 20)], none⟩, ⟨some 22, .mv (.tmp 21), none⟩, ⟨some 23, .load true 2 (.tmp 7), some (22, true)⟩, ⟨some 24, .call (.func 122) [(.tmp 23)], some (22, true)⟩,
    ⟨some 25, .pick (.tmp 22) (.tmp 24) (.const (.bool false)), none⟩, ⟨some 26, .call (.func 41) [(.tmp 25), (.const (.int .i64 9))], none⟩, ⟨some 27, .fld 2 (.tmp 4), none⟩, ⟨some
    28, .load false 1 (.tmp 27), none⟩, ⟨some 29, .call (.func 76) [(.tmp 28), (.const (.int .i64 0)), (.const (.int .i64 2))], none⟩, ⟨some 30, .call (.func 41) [(.tmp 29), (.const
    (.int .i64 15))], none⟩, ⟨some 31, .fld 0 (.tmp 4), none⟩, ⟨some 32, .fld 0 (.tmp 31), none⟩, ⟨some 33, .load false 1 (.tmp 32), none⟩, ⟨some 34, .load false 1 (.tmp 2), none⟩,
    ⟨some 35, .bin .geq (.tmp 33) (.tmp 34), none⟩, ⟨some 36, .call (.func 41) [(.tmp 35), (.const (.int .i64 9))], none⟩, ⟨some 37, .lit false 38 1 [(.tmp 19), (.tmp 26), (.tmp
    30), (.tmp 36)], none⟩, ⟨some 38, .call (.func 39) [(.tmp 37)], none⟩, ⟨some 8, .mv (.tmp 38), none⟩] [0, 1, 3, 7, 15, 31, 63, 0, 255, 511, 1023, 2047, 4095, 8191, 0, 16384,
    65535, 131071, 0, 262144, 786432, 0, 3932160, 8388607, 16777215, 33554431, 67108863] [0, 1, 2, 3, 4, 5, 6, 7, 8, 9, 10, 11, 12, 13, 14, 15, 16, 17, 18, 19, 20, 21, 22, 23, 24,
    25, 26]) (.seq (.region [⟨some 39, .fld 0 (.tmp 4), none⟩, ⟨some 40, .fld 0 (.tmp 39), none⟩, ⟨some 41, .load false 1 (.tmp 40), none⟩, ⟨none, .store 1 (.tmp 2) (.tmp 41),
    none⟩]) (.seq (.region [⟨some 42, .mv (.tmp 8), none⟩, ⟨some 5, .mv (.tmp 42), none⟩]) .ret)))))
theorem low120 : lowF Try.prog [4] Try.f120 = some (43, lc120.strip, [.tmp 5]) := by kernel_rfl
theorem fn120 : FnOk Try.prog 120 43 lc120 [.tmp 5] := ⟨Try.call120, [4], _, Try.func120, low120⟩
/-- (moonpool/survey.span).isWithin -/
def lc121 : LCode :=
  (.seq (.region [⟨some 3, .boxS (.tmp 0), none⟩, ⟨some 6, .mv (.const (.bool false)), none⟩]) (.seq (.region [⟨some 7, .fld 0 (.tmp 3), none⟩, ⟨some 8, .load false 1 (.tmp 7),
    none⟩, ⟨some 9, .mv (.tmp 1), none⟩, ⟨some 10, .mv (.tmp 2), none⟩, ⟨some 11, .call (.func 76) [(.tmp 8), (.tmp 9), (.tmp 10)], none⟩, ⟨some 12, .mv (.tmp 11), none⟩, ⟨some 13,
    .fld 1 (.tmp 3), some (12, true)⟩, ⟨some 14, .load false 1 (.tmp 13), some (12, true)⟩, ⟨some 15, .mv (.tmp 1), some (12, true)⟩, ⟨some 16, .mv (.tmp 2), some (12, true)⟩, ⟨some
    17, .call (.func 76) [(.tmp 14), (.tmp 15), (.tmp 16)], some (12, true)⟩, ⟨some 18, .pick (.tmp 12) (.tmp 17) (.const (.bool false)), none⟩, ⟨some 6, .mv (.tmp 18), none⟩])
    .ret))
theorem low121 : lowF Try.prog [3] Try.f121 = some (19, lc121.strip, [.tmp 6]) := by kernel_rfl
theorem fn121 : FnOk Try.prog 121 19 lc121 [.tmp 6] := ⟨Try.call121, [3], _, Try.func121, low121⟩
/-- (moonpool/survey.span).isOrdered -/
def lc122 : LCode :=
  (.seq (.region [⟨some 1, .boxS (.tmp 0), none⟩, ⟨some 2, .mv (.const (.bool false)), none⟩]) (.seq (.region [⟨some 3, .fld 0 (.tmp 1), none⟩, ⟨some 4, .load false 1 (.tmp 3),
    none⟩, ⟨some 5, .fld 1 (.tmp 1), none⟩, ⟨some 6, .load false 1 (.tmp 5), none⟩, ⟨some 7, .bin .leq (.tmp 4) (.tmp 6), none⟩, ⟨some 2, .mv (.tmp 7), none⟩]) .ret))
theorem low122 : lowF Try.prog [1] Try.f122 = some (8, lc122.strip, [.tmp 2]) := by kernel_rfl
theorem fn122 : FnOk Try.prog 122 8 lc122 [.tmp 2] := ⟨Try.call122, [1], _, Try.func122, low122⟩
/-- moonpool/survey.CheckStations -/
def lc134 : LCode :=
  (.seq (.region [⟨some 2, .mv (.const (.int .i64 0)), none⟩, ⟨some 3, .mv (.const (.int .i64 0)), none⟩]) (.seq (.seq (.region [⟨some 5, .mv (.tmp 0), none⟩, ⟨some 6, .len (.tmp
    5), none⟩, ⟨some 7, .bin .gtr (.tmp 6) (.const (.int .i64 20)), none⟩]) (.cond (.tmp 7) (.seq (.region [⟨some 2, .mv (.const (.int .i64 0)), none⟩, ⟨some 3, .mv (.const (.int
    .i64 8)), none⟩]) .ret) .skip)) (.seq (.region [⟨some 4, .alloc [(.int .i64 0)], none⟩, ⟨none, .store 1 (.tmp 4) (.const (.int .i64 (-1))), none⟩]) (.seq (.region [⟨some 8, .mv
    (.tmp 0), none⟩, ⟨some 9, .mkfn 140 [(.tmp 4)], none⟩, ⟨some 10, .call (.func 139) [(.tmp 8), (.tmp 9)], none⟩, ⟨some 11, .ext (.tmp 10) 0, none⟩, ⟨some 12, .ext (.tmp 10) 1,
    none⟩, ⟨some 2, .mv (.tmp 11), none⟩, ⟨some 3, .mv (.tmp 12), none⟩]) .ret))))
theorem low134 : lowF Try.prog [] Try.f134 = some (13, lc134.strip, [.tmp 2, .tmp 3]) := by kernel_rfl
theorem fn134 : FnOk Try.prog 134 13 lc134 [.tmp 2, .tmp 3] := ⟨Try.call134, [], _, Try.func134, low134⟩
/-- moonpool/survey.each[moonpool/api.SurveyStation] -/
def lc139 : LCode :=
  (.seq (.region [⟨some 4, .mv (.const (.int .i64 0)), none⟩, ⟨some 5, .mv (.const (.int .i64 0)), none⟩]) (.seq (.seq (.region [⟨some 9, .mv (.tmp 0), none⟩, ⟨some 10, .len (.tmp
    9), none⟩, ⟨some 11, .mv (.const (.int .i64 0)), none⟩]) (.block 0 (.loop (.seq (.region [⟨some 12, .bin .lss (.tmp 11) (.tmp 10), none⟩]) (.seq (.cond (.tmp 12) .skip (.exit
    0)) (.seq (.block 1 (.seq (.region [⟨some 13, .mv (.tmp 11), none⟩, ⟨some 14, .idx 5 (.tmp 9) (.tmp 11), none⟩, ⟨some 15, .load true 5 (.tmp 14), none⟩, ⟨some 7, .alloc [(.int
    .i64 0), (.int .i64 0), (.int .i64 0), (.int .i64 0), (.int .i64 0)], none⟩, ⟨some 6, .mv (.tmp 13), none⟩, ⟨none, .store 5 (.tmp 7) (.tmp 15), none⟩]) (.seq (.region [⟨some 16,
    .mv (.tmp 1), none⟩, ⟨some 17, .mv (.tmp 6), none⟩, ⟨some 18, .load true 5 (.tmp 7), none⟩, ⟨some 19, .call (.tmp 16) [(.tmp 17), (.tmp 18)], none⟩, ⟨some 8, .mv (.tmp 19),
    none⟩]) (.seq (.region [⟨some 20, .mv (.tmp 8), none⟩, ⟨some 21, .bin .neq (.tmp 20) (.const (.int .i64 0)), none⟩]) (.cond (.tmp 21) (.seq (.region [⟨some 22, .mv (.tmp 6),
    none⟩, ⟨some 23, .mv (.tmp 8), none⟩, ⟨some 4, .mv (.tmp 22), none⟩, ⟨some 5, .mv (.tmp 23), none⟩]) .ret) .skip))))) (.region [⟨some 24, .bin .add (.tmp 11) (.const (.int .i64
    1)), none⟩, ⟨some 11, .mv (.tmp 24), none⟩]))))))) (.seq (.region [⟨some 4, .mv (.const (.int .i64 0)), none⟩, ⟨some 5, .mv (.const (.int .i64 0)), none⟩]) .ret)))
theorem low139 : lowF Try.prog [] Try.f139 = some (25, lc139.strip, [.tmp 4, .tmp 5]) := by kernel_rfl
theorem fn139 : FnOk Try.prog 139 25 lc139 [.tmp 4, .tmp 5] := ⟨Try.call139, [], _, Try.func139, low139⟩
/-- moonpool/survey.CheckStations$1 -/
def lc140 : LCode :=
  (.seq (.region [⟨some 4, .boxS (.tmp 1), none⟩, ⟨some 5, .mv (.const (.int .i64 0)), none⟩]) (.seq (.regionD [⟨some 7, .load true 5 (.tmp 4), none⟩, ⟨some 8, .call (.func 141)
    [(.tmp 7)], none⟩, ⟨some 9, .fld 0 (.tmp 4), none⟩, ⟨some 10, .load false 1 (.tmp 9), none⟩, ⟨some 11, .load false 1 (.tmp 2), none⟩, ⟨some 12, .bin .gtr (.tmp 10) (.tmp 11),
    none⟩, ⟨some 13, .call (.func 41) [(.tmp 12), (.const (.int .i64 9))], none⟩, ⟨some 14, .lit false 38 1 [(.tmp 8), (.tmp 13)], none⟩, ⟨some 15, .call (.func 39) [(.tmp 14)],
    none⟩, ⟨some 6, .mv (.tmp 15), none⟩] [0, 1, 0, 4, 0, 28, 63, 127, 255, 511] [0, 1, 2, 3, 4, 5, 6, 7, 8, 9]) (.seq (.region [⟨some 16, .fld 0 (.tmp 4), none⟩, ⟨some 17, .load
    false 1 (.tmp 16), none⟩, ⟨none, .store 1 (.tmp 2) (.tmp 17), none⟩]) (.seq (.region [⟨some 18, .mv (.tmp 6), none⟩, ⟨some 5, .mv (.tmp 18), none⟩]) .ret))))
theorem low140 : lowF Try.prog [4] Try.f140 = some (19, lc140.strip, [.tmp 5]) := by kernel_rfl
theorem fn140 : FnOk Try.prog 140 19 lc140 [.tmp 5] := ⟨Try.call140, [4], _, Try.func140, low140⟩
/-- moonpool/survey.stationErr -/
def lc141 : LCode :=
  (.seq (.region [⟨some 1, .boxS (.tmp 0), none⟩, ⟨some 2, .mv (.const (.int .i64 0)), none⟩]) (.seq (.regionD [⟨some 5, .fld 1 (.tmp 1), none⟩, ⟨some 6, .load true 2 (.tmp 5),
    none⟩, ⟨some 7, .fld 3 (.tmp 1), none⟩, ⟨some 8, .load true 2 (.tmp 7), none⟩, ⟨some 3, .alloc [(.int .i64 0), (.int .i64 0)], none⟩, ⟨some 4, .alloc [(.int .i64 0), (.int .i64
    0)], none⟩, ⟨none, .store 2 (.tmp 3) (.tmp 6), none⟩, ⟨none, .store 2 (.tmp 4) (.tmp 8), none⟩] [0, 1, 0, 4, 0, 0, 51, 127] [0, 1, 2, 3, 4, 5, 6, 7]) (.seq (.regionD [⟨some 9,
    .fld 0 (.tmp 1), none⟩, ⟨some 10, .load false 1 (.tmp 9), none⟩, ⟨some 11, .call (.func 142) [(.tmp 10)], none⟩, ⟨some 12, .mv (.tmp 11), none⟩, ⟨some 13, .load true 2 (.tmp 3),
    some (12, true)⟩, ⟨some 14, .call (.func 143) [(.tmp 13), (.const (.int .i64 10000))], some (12, true)⟩, ⟨some 15, .pick (.tmp 12) (.tmp 14) (.const (.bool false)), none⟩, ⟨some
    16, .mv (.tmp 15), none⟩, ⟨some 17, .load true 2 (.tmp 4), some (16, true)⟩, ⟨some 18, .call (.func 143) [(.tmp 17), (.const (.int .i64 10000))], some (16, true)⟩, ⟨some 19,
    .pick (.tmp 16) (.tmp 18) (.const (.bool false)), none⟩, ⟨some 20, .call (.func 41) [(.tmp 19), (.const (.int .i64 2))], none⟩, ⟨some 21, .load true 2 (.tmp 3), none⟩, ⟨some 22,
    .call (.func 122) [(.tmp 21)], none⟩, ⟨some 23, .mv (.tmp 22), none⟩, ⟨some 24, .load true 2 (.tmp 4), some (23, true)⟩, ⟨some 25, .call (.func 122) [(.tmp 24)], some (23,
    true)⟩, ⟨some 26, .pick (.tmp 23) (.tmp 25) (.const (.bool false)), none⟩, ⟨some 27, .call (.func 41) [(.tmp 26), (.const (.int .i64 9))], none⟩, ⟨some 28, .lit false 38 1
    [(.tmp 20), (.tmp 27)], none⟩, ⟨some 29, .call (.func 39) [(.tmp 28)], none⟩, ⟨some 2, .mv (.tmp 29), none⟩] [0, 1, 3, 7, 15, 31, 63, 127, 255, 511, 1023, 2047, 0, 8191, 16383,
    32767, 65535, 131071, 262143, 524287, 1048575, 2097151] [0, 1, 2, 3, 4, 5, 6, 7, 8, 9, 10, 11, 12, 13, 14, 15, 16, 17, 18, 19, 20, 21]) .ret)))
theorem low141 : lowF Try.prog [1] Try.f141 = some (30, lc141.strip, [.tmp 2]) := by kernel_rfl
theorem fn141 : FnOk Try.prog 141 30 lc141 [.tmp 2] := ⟨Try.call141, [1], _, Try.func141, low141⟩
/-- moonpool/survey.isAt -/
def lc142 : LCode :=
  (.seq (.region [⟨some 2, .mv (.const (.bool false)), none⟩]) (.seq (.region [⟨some 3, .mv (.tmp 0), none⟩, ⟨some 4, .call (.func 76) [(.tmp 3), (.const (.int .i64 0)), (.const
    (.int .i64 100000))], none⟩, ⟨some 2, .mv (.tmp 4), none⟩]) .ret))
theorem low142 : lowF Try.prog [] Try.f142 = some (5, lc142.strip, [.tmp 2]) := by kernel_rfl
theorem fn142 : FnOk Try.prog 142 5 lc142 [.tmp 2] := ⟨Try.call142, [], _, Try.func142, low142⟩
/-- (moonpool/survey.span).isSized -/
def lc143 : LCode :=
  (.seq (.region [⟨some 2, .boxS (.tmp 0), none⟩, ⟨some 4, .mv (.const (.bool false)), none⟩]) (.seq (.region [⟨some 5, .fld 0 (.tmp 2), none⟩, ⟨some 6, .load false 1 (.tmp 5),
    none⟩, ⟨some 7, .mv (.tmp 1), none⟩, ⟨some 8, .call (.func 144) [(.tmp 6), (.tmp 7)], none⟩, ⟨some 9, .mv (.tmp 8), none⟩, ⟨some 10, .fld 1 (.tmp 2), some (9, true)⟩, ⟨some 11,
    .load false 1 (.tmp 10), some (9, true)⟩, ⟨some 12, .mv (.tmp 1), some (9, true)⟩, ⟨some 13, .call (.func 144) [(.tmp 11), (.tmp 12)], some (9, true)⟩, ⟨some 14, .pick (.tmp 9)
    (.tmp 13) (.const (.bool false)), none⟩, ⟨some 4, .mv (.tmp 14), none⟩]) .ret))
theorem low143 : lowF Try.prog [2] Try.f143 = some (15, lc143.strip, [.tmp 4]) := by kernel_rfl
theorem fn143 : FnOk Try.prog 143 15 lc143 [.tmp 4] := ⟨Try.call143, [2], _, Try.func143, low143⟩
/-- moonpool/survey.isSized -/
def lc144 : LCode :=
  (.seq (.region [⟨some 4, .mv (.const (.bool false)), none⟩]) (.seq (.region [⟨some 5, .mv (.tmp 0), none⟩, ⟨some 6, .mv (.tmp 1), none⟩, ⟨some 7, .un .neg (.tmp 6), none⟩, ⟨some
    8, .mv (.tmp 1), none⟩, ⟨some 9, .call (.func 76) [(.tmp 5), (.tmp 7), (.tmp 8)], none⟩, ⟨some 4, .mv (.tmp 9), none⟩]) .ret))
theorem low144 : lowF Try.prog [] Try.f144 = some (10, lc144.strip, [.tmp 4]) := by kernel_rfl
theorem fn144 : FnOk Try.prog 144 10 lc144 [.tmp 4] := ⟨Try.call144, [], _, Try.func144, low144⟩
end Go.Pw



set_option linter.unusedSimpArgs false
set_option linter.unusedVariables false
set_option maxHeartbeats 1000000
namespace Go.Pw
set_option maxRecDepth 2000
open Go Go.Proofs A1 A2 A3 A4
instance : Mix Try.prog := ⟨⟨by kernel_rfl⟩⟩
theorem C6 {n lo hi : Int} : PFD Try.prog 6 [vi .i64 n, vi .i64 lo, vi .i64 hi] (vbl (decide (lo ≤ n ∧ n ≤ hi))) := by
  refine pi1 fn6 ?_
  (repeat' first | (refine Owe.same ?_; first | refine Owe.o ?_ | refine Owe.mk ?_ ?_) | (refine Fork.same ?_; (first | refine fkD ?_ ?_ | refine fkN ?_ ?_ | refine fkM ?_ ?_) <;> intro h) | refine MvQ.stay ?_)
  · (refine rqK rfl ?_; (repeat' first | exact rfl | (refine qS ?_; constructor))); simp [*]
  · (refine rqK rfl ?_; (repeat' first | exact rfl | (refine qS ?_; constructor))); simp only [decide_eq_false_iff_not]; omega
theorem C76 {n lo hi : Int} : PFD Try.prog 76 [vi .i64 n, vi .i64 lo, vi .i64 hi] (vbl (decide (lo ≤ n ∧ n ≤ hi))) := by
  refine pi1 fn76 ?_
  (repeat' first | (refine Owe.same ?_; first | refine Owe.o ?_ | refine Owe.mk ?_ ?_) | (refine Fork.same ?_; (first | refine fkD ?_ ?_ | refine fkN ?_ ?_ | refine fkM ?_ ?_) <;> intro h) | refine MvQ.stay ?_)
  · (refine rqK rfl ?_; (repeat' first | exact rfl | (refine qS ?_; constructor))); simp [*]
  · (refine rqK rfl ?_; (repeat' first | exact rfl | (refine qS ?_; constructor))); simp only [decide_eq_false_iff_not]; omega
theorem C41 {b : Bool} {e : Int} : PFD Try.prog 41 [vbl b, vi .i64 e] (vi .i64 (unb b e)) := by
  refine pi1 fn41 ?_
  (repeat' first | (refine Owe.same ?_; first | refine Owe.o ?_ | refine Owe.mk ?_ ?_) | (refine Fork.same ?_; (first | refine fkD ?_ ?_ | refine fkN ?_ ?_ | refine fkM ?_ ?_) <;> intro h) | refine MvQ.stay ?_)
  · (refine rqK rfl ?_; (repeat' first | exact rfl | (refine qS ?_; constructor))); simp [unb, *]
  · (refine rqK rfl ?_; (repeat' first | exact rfl | (refine qS ?_; constructor))); simp [unb, *]
theorem C39 {l : List Int} : l.length < 4611686018427387904 → PFD Try.prog 39 [.c (ints l)] (vi .i64 (fstE l)) := fun hl => by
  refine pi1 fn39 ?_
  (repeat' first | (refine Owe.same ?_; first | refine Owe.o ?_ | refine Owe.mk ?_ ?_) | (refine Fork.same ?_; (first | refine fkD ?_ ?_ | refine fkN ?_ ?_ | refine fkM ?_ ?_) <;> intro h) | refine MvQ.stay ?_)
  refine Sat.lp0 (fun k : Nat => [(7, vi .i64 k), (6, vi .i64 l.length), (5, .c (ints l))]) (fun k => k ≤ l.length ∧ fstE l = fstE (l.drop k)) (fun k => l.length - k) 0 ⟨Nat.zero_le _, rfl⟩ (by ((first | refine qen ?_ | refine qvs ?_ | refine qeq ?_ | refine qst ?_ | refine qv ?_ | refine qc ?_ | refine qe ?_ | refine qcs ?_ | skip); (repeat' first | exact rfl | (refine qS ?_; constructor)))) ?_
  intro k hk
  (repeat' first | (refine Owe.same ?_; first | refine Owe.o ?_ | refine Owe.mk ?_ ?_) | (refine Fork.same ?_; (first | refine fkD ?_ ?_ | refine fkN ?_ ?_ | refine fkM ?_ ?_) <;> intro h) | refine MvQ.stay ?_)
  · simp only [Int.toNat_natCast] at h
    (refine rqK rfl ?_; (repeat' first | exact rfl | (refine qS ?_; constructor)))
    rw [hk.2, fstE_drop l k (by omega), if_neg h, Int.toNat_natCast]
  · simp only [Int.toNat_natCast] at h
    refine again0 (k + 1) ⟨by omega, ?_⟩ (by omega) (by ((first | refine qen ?_ | refine qvs ?_ | refine qeq ?_ | refine qst ?_ | refine qv ?_ | refine qc ?_ | refine qe ?_ | refine qcs ?_ | skip); (repeat' first | exact rfl | (refine qS ?_; constructor))))
    rw [hk.2, fstE_drop l k (by omega), if_pos h]
  · (refine rqK rfl ?_; (repeat' first | exact rfl | (refine qS ?_; constructor)))
    rw [hk.2, List.drop_of_length_le (by omega)]; rfl
theorem C40 {n m : Int} : (0 ≤ m ∧ m ≤ 1000000) → PFD Try.prog 40 [vi .i64 n, vi .i64 m] (vi .i64 (unl (0 ≤ n ∧ n ≤ m - 1) 6)) := fun hm => by
  refine pi1 fn40 ?_
  (repeat' first | (refine Owe.same ?_; first | refine Owe.o ?_ | refine Owe.mk ?_ ?_) | (refine Fork.same ?_; (first | refine fkD ?_ ?_ | refine fkN ?_ ?_ | refine fkM ?_ ?_) <;> intro h) | ((first | refine OpsL.same ?_ | refine OpsDL.same ?_); first | refine pK C76 rfl rfl ?_ | refine pK C41 rfl rfl ?_) | refine MvQ.stay ?_)
  (refine rqK rfl ?_; (repeat' first | exact rfl | (refine qS ?_; constructor)))
abbrev ftD (f : Ft) : List D := [dI f.1.1, dI f.1.2, dI f.2.1, dI f.2.2.1, dI f.2.2.2]
abbrev fts (l : List Ft) : C := slv 5 ftD ft0 l
abbrev ftsD (l : List Ft) : D := .sl 5 l.length fun i => ftD (l.getD i ft0)
abbrev suD (A B : List Ft) (s : Int) : List D := [ftsD A, ftsD B, dI s]
abbrev suv (A B : List Ft) (s : Int) : V := .agg [fts A, fts B, int s]
/-- The numbers of surveys are small. -/
structure SvB (A B : List Ft) (s : Int) : Prop where
  a : A.length ≤ 8
  b : B.length ≤ 8
  s : 0 ≤ s ∧ s ≤ 100000
  fa : ∀ f ∈ A, (0 ≤ f.1.1 ∧ f.1.1 ≤ 100000) ∧ 0 ≤ f.1.2 ∧ f.1.2 ≤ 100000
  fb : ∀ f ∈ B, (0 ≤ f.1.1 ∧ f.1.1 ≤ 100000) ∧ 0 ≤ f.1.2 ∧ f.1.2 ≤ 100000
theorem SvB.drop {A B : List Ft} {s : Int} (h : SvB A B s) (i k : Nat) : SvB (A.drop i) (B.drop k) s :=
  ⟨by rw [List.length_drop]; have := h.a; omega, by rw [List.length_drop]; have := h.b; omega, h.s, fun f hf => h.fa f (List.mem_of_mem_drop hf), fun f hf => h.fb f (List.mem_of_mem_drop hf)⟩
theorem C42 {A B : List Ft} {s : Int} {i k : Nat} : (SvB A B s ∧ i < A.length ∧ k < B.length) → PFD Try.prog 42 [suv A B s, vi .i64 i, vi .i64 k] (.tup [vi .i64 (dst (A.getD i ft0) (B.getD k ft0)), vbl (decide ((A.getD i ft0).2.1 = (B.getD k ft0).2.1))]) := fun ⟨hS, hi, hk⟩ => by
  have h1 := hS.fa _ (getD_mem ft0 hi)
  have h2 := hS.fb _ (getD_mem ft0 hk)
  refine pi2 fn42 ?_
  (repeat' first | (refine Owe.same ?_; first | refine Owe.o ?_ | refine Owe.mk ?_ ?_) | (refine Fork.same ?_; (first | refine fkD ?_ ?_ | refine fkN ?_ ?_ | refine fkM ?_ ?_) <;> intro h) | refine MvQ.stay ?_)
  (refine rqK rfl ?_; (repeat' first | exact rfl | (refine qS ?_; constructor)))
theorem dst_le {A B : List Ft} {s : Int} {i k : Nat} (hS : SvB A B s) (hi : i < A.length) (hk : k < B.length) : dst (A.getD i ft0) (B.getD k ft0) ≤ 100000 := by
  have h1 := hS.fa _ (getD_mem ft0 hi)
  have h2 := hS.fb _ (getD_mem ft0 hk)
  rw [dst]; omega
/-- Rows of numbers. -/
abbrev iD (l : List Int) : List D := [.sl 1 l.length fun i => r1 (l.getD i 0)]
abbrev ils (L : List (List Int)) : C := slv 1 iD [] L
def ptR (s : Int) (A B : List Ft) (i n : Nat) : List Int := (List.range n).map (pT s A B i)
def ptL (s : Int) (A B : List Ft) (n : Nat) : List (List Int) := (List.range n).map fun i => ptR s A B i (B.length + 1)
theorem ptR_len {s : Int} {A B : List Ft} {i n : Nat} : (ptR s A B i n).length = n := by simp [ptR]
theorem ptL_len {s : Int} {A B : List Ft} {n : Nat} : (ptL s A B n).length = n := by simp [ptL]
theorem ptR_at {s : Int} {A B : List Ft} {i n k : Nat} (h : k < n) : (ptR s A B i n).getD k 0 = pT s A B i k := by
  rw [ptR, List.getD_eq_getElem?_getD, List.getElem?_map, List.getElem?_range h]; rfl
theorem ptL_at {s : Int} {A B : List Ft} {n i : Nat} (h : i < n) : (ptL s A B n).getD i [] = ptR s A B i (B.length + 1) := by
  rw [ptL, List.getD_eq_getElem?_getD, List.getElem?_map, List.getElem?_range h]; rfl
theorem ptR_succ {s : Int} {A B : List Ft} {i n : Nat} : ptR s A B i (n + 1) = ptR s A B i n ++ [pT s A B i n] := by
  rw [ptR, List.range_succ, List.map_append]; rfl
theorem ptL_succ {s : Int} {A B : List Ft} {n : Nat} : ptL s A B (n + 1) = ptL s A B n ++ [ptR s A B n (B.length + 1)] := by
  rw [ptL, List.range_succ, List.map_append]; rfl
theorem pT_le {A B : List Ft} {s : Int} (hS : SvB A B s) {i k : Nat} (hi : i ≤ A.length) (hk : k ≤ B.length) : 0 ≤ pT s A B i k ∧ pT s A B i k ≤ 1600000 := by
  have h1 := hS.a
  have h2 := hS.b
  have h3 := hS.s
  refine ⟨pT_0 h3.1 i k, ?_⟩
  have h4 := pT_1 (s := s) (A := A) (B := B) i k
  have h5 : ((i + k : Nat) : Int) * s ≤ 16 * 100000 := Int.mul_le_mul (by omega) h3.2 h3.1 (by decide)
  omega
theorem pT_0k {s : Int} {A B : List Ft} {k : Nat} : pT s A B 0 (k + 1) = min ((((0 : Nat) : Int) + ((k + 1 : Nat) : Int)) * s) (pT s A B 0 k + s) := by
  rw [pT, p0, show ((0 : Nat) : Int) + ((k + 1 : Nat) : Int) = ((k + 1 : Nat) : Int) by omega]
theorem pT_i0 {s : Int} {A B : List Ft} {i : Nat} : pT s A B (i + 1) 0 = min ((((i + 1 : Nat) : Int) + ((0 : Nat) : Int)) * s) (pT s A B i 0 + s) := by
  rw [pT, pR, show ((i + 1 : Nat) : Int) + ((0 : Nat) : Int) = ((i + 1 : Nat) : Int) by omega]
theorem pT_ik {s : Int} {A B : List Ft} {i k : Nat} : pT s A B (i + 1) (k + 1) = if (A.getD i ft0).2.1 = (B.getD k ft0).2.1 then min (min (min ((((i + 1 : Nat) : Int) + ((k + 1 : Nat) : Int)) * s) (pT s A B i (k + 1) + s)) (pT s A B (i + 1) k + s)) (pT s A B i k + dst (A.getD i ft0) (B.getD k ft0))
    else min (min ((((i + 1 : Nat) : Int) + ((k + 1 : Nat) : Int)) * s) (pT s A B i (k + 1) + s)) (pT s A B (i + 1) k + s) := by
  rw [pT, pR, show ((i + 1 : Nat) : Int) + ((k + 1 : Nat) : Int) = ((i + 1 + (k + 1) : Nat) : Int) by omega]
theorem C35 {A B : List Ft} {s : Int} : SvB A B s → PFD Try.prog 35 [suv A B s] (.c (ils (ptL s A B (A.length + 1)))) := fun hS => by
  have ha := hS.a
  have hb := hS.b
  have hs := hS.s
  refine pi1 fn35 ?_
  (repeat' first | (refine Owe.same ?_; first | refine Owe.o ?_ | refine Owe.mk ?_ ?_) | (refine Fork.same ?_; (first | refine fkD ?_ ?_ | refine fkN ?_ ?_ | refine fkM ?_ ?_) <;> intro h) | refine MvQ.stay ?_)
  refine Sat.nilS 3 26 1 (fun i => iD (([] : List (List Int)).getD i [])) rfl ?_
  refine Sat.lp (fun i : Nat => ⟨[(14, vi .i64 i), (13, vi .i64 ((A.length : Int) + 1)), (1, .c (.rp (suD A B s))), (3, .c (.ms 0 (ptL s A B i).length))], [(0, rowv 26 1 iD [] (ptL s A B i))], 1⟩)
    (fun i => i ≤ A.length + 1) (fun i => A.length + 1 - i) 0 [0] (Nat.zero_le _) ?_ ?_
  · (refine qis ?_ ?_ <;> (repeat' first | exact rfl | (refine qS ?_; constructor)))
  · intro i hi
    have hLl := ptL_len (s := s) (A := A) (B := B) (n := i)
    refine Fork.dec (fun hlt => ?_) (fun hlt => ?_)
    · have hlt : i < A.length + 1 := by omega
      (repeat' first | (refine Owe.same ?_; first | refine Owe.o ?_ | refine Owe.mk ?_ ?_) | (refine Fork.same ?_; (first | refine fkD ?_ ?_ | refine fkN ?_ ?_ | refine fkM ?_ ?_) <;> intro h) | refine MvQ.stay ?_)
      refine Sat.nilS 5 3 1 (fun i => r1 (([] : List Int).getD i 0)) rfl ?_
      refine Sat.lp (fun k : Nat => ⟨[(21, vi .i64 k), (20, vi .i64 ((B.length : Int) + 1)), (4, vi .i64 i), (5, .c (.ms 1 (ptR s A B i k).length)), (14, vi .i64 i), (13, vi .i64 ((A.length : Int) + 1)), (1, .c (.rp (suD A B s))), (3, .c (.ms 0 (ptL s A B i).length))], [(0, rowv 26 1 iD [] (ptL s A B i)), (1, rowv 3 1 r1 0 (ptR s A B i k))], 2⟩)
        (fun k => k ≤ B.length + 1) (fun k => B.length + 1 - k) 0 [0, 1] (Nat.zero_le _) ?_ ?_
      · (refine qis ?_ ?_ <;> (repeat' first | exact rfl | (refine qS ?_; constructor)))
      · intro k hk
        have hRl := ptR_len (s := s) (A := A) (B := B) (i := i) (n := k)
        refine Fork.dec (fun hlk => ?_) (fun hlk => ?_)
        · have hlk : k < B.length + 1 := by omega
          have hm : 0 ≤ ((i : Int) + k) * s ∧ ((i : Int) + k) * s ≤ 16 * 100000 := ⟨Int.mul_nonneg (by omega) hs.1, Int.mul_le_mul (by omega) hs.2 hs.1 (by decide)⟩
          have hn := pT_le hS (i := i) (k := k) (by omega) (by omega)
          rcases i with _ | i
          · rcases k with _ | k
            · (repeat' first | (refine Owe.same ?_; first | refine Owe.o ?_ | refine Owe.mk ?_ ?_) | (refine Fork.same ?_; (first | refine fkD ?_ ?_ | refine fkN ?_ ?_ | refine fkM ?_ ?_) <;> (intro h; try (exfalso; omega))) | refine MvQ.stay ?_)
              refine again 1 [0, 2] (by omega) (by omega) ?_
              (refine qis ?_ ?_ <;> (repeat' first | exact rfl | (refine qS ?_; constructor)))
              show [0] = [(((0 : Nat) : Int) + ((0 : Nat) : Int)) * s]
              simp
            · have e1 : (ptR s A B 0 (k + 1)).getD (((k + 1 : Nat) : Int) - 1).toNat 0 = pT s A B 0 k := by
                rw [show (((k + 1 : Nat) : Int) - 1).toNat = k by omega, ptR_at (by omega)]
              have n1 := pT_le hS (i := 0) (k := k) (by omega) (by omega)
              (repeat' first | (refine Owe.same ?_; first | refine Owe.o ?_ | refine Owe.mk ?_ ?_) | (refine Fork.same ?_; (first | refine fkD ?_ ?_ | refine fkN ?_ ?_ | refine fkM ?_ ?_) <;> (intro h; try (exfalso; omega))) | refine MvQ.stay ?_)
              refine again (k + 2) [0, 13] (by omega) (by omega) ?_
              (refine qis ?_ ?_ <;> (repeat' first | exact rfl | (refine qS ?_; constructor)))
              · simp [ptR_len]
              · rw [show k + 2 = k + 1 + 1 from rfl, ptR_succ, pT_0k, ← e1]
          · have eL : (ptL s A B (i + 1)).getD (((i + 1 : Nat) : Int) - 1).toNat [] = ptR s A B i (B.length + 1) := by
              rw [show (((i + 1 : Nat) : Int) - 1).toNat = i by omega, ptL_at (by omega)]
            have f0 : ((ptL s A B (i + 1)).getD (((i + 1 : Nat) : Int) - 1).toNat []).length = B.length + 1 := by rw [eL, ptR_len]
            have f1 : ((ptL s A B (i + 1)).getD (((i + 1 : Nat) : Int) - 1).toNat []).getD (k : Int).toNat 0 = pT s A B i k := by
              rw [eL, show (k : Int).toNat = k from rfl, ptR_at (by omega)]
            have n1 := pT_le hS (i := i) (k := k) (by omega) (by omega)
            rcases k with _ | k
            · (repeat' first | (refine Owe.same ?_; first | refine Owe.o ?_ | refine Owe.mk ?_ ?_) | (refine Fork.same ?_; (first | refine fkD ?_ ?_ | refine fkN ?_ ?_ | refine fkM ?_ ?_) <;> (intro h; try (exfalso; omega))) | refine MvQ.stay ?_)
              · simp only [R64]; omega
              refine again 1 [0, 16] (by omega) (by omega) ?_
              (refine qis ?_ ?_ <;> (repeat' first | exact rfl | (refine qS ?_; constructor)))
              · rw [show 1 = 0 + 1 from rfl, ptR_succ, pT_i0, ← f1]
            · have e1 : (ptR s A B (i + 1) (k + 1)).getD (((k + 1 : Nat) : Int) - 1).toNat 0 = pT s A B (i + 1) k := by
                rw [show (((k + 1 : Nat) : Int) - 1).toNat = k by omega, ptR_at (by omega)]
              have f2 : ((ptL s A B (i + 1)).getD (((i + 1 : Nat) : Int) - 1).toNat []).getD (((k + 1 : Nat) : Int) - 1).toNat 0 = pT s A B i k := by
                rw [eL, show (((k + 1 : Nat) : Int) - 1).toNat = k by omega, ptR_at (by omega)]
              have n2 := pT_le hS (i := i + 1) (k := k) (by omega) (by omega)
              have n3 := pT_le hS (i := i) (k := k) (by omega) (by omega)
              have c42 := C42 (i := i) (k := k) ⟨hS, by omega, by omega⟩
              rw [show (i : Int) = ((i + 1 : Nat) : Int) - 1 by omega, show (k : Int) = ((k + 1 : Nat) : Int) - 1 by omega] at c42
              have n4 := dst_le hS (i := i) (k := k) (by omega) (by omega)
              have n5 := dst_nn (a := A.getD i ft0) (b := B.getD k ft0)
              have ee := pT_ik (s := s) (A := A) (B := B) (i := i) (k := k)
              (repeat' first | (refine Owe.same ?_; first | refine Owe.o ?_ | refine Owe.mk ?_ ?_) | (refine Fork.same ?_; (first | refine fkD ?_ ?_ | refine fkN ?_ ?_ | refine fkM ?_ ?_) <;> (intro h; try (exfalso; omega))) | ((first | refine OpsL.same ?_ | refine OpsDL.same ?_); first | refine pK c42 rfl rfl ?_) | refine MvQ.stay ?_)
              · simp only [R64]; omega
              · refine again (k + 2) [0, 27] (by omega) (by omega) ?_
                (refine qis ?_ ?_ <;> (repeat' first | exact rfl | (refine qS ?_; constructor)))
                · simp [ptR_len]
                · rw [show k + 2 = k + 1 + 1 from rfl, ptR_succ, ee, if_pos h, ← f1, ← f2, ← e1]
              · refine again (k + 2) [0, 27] (by omega) (by omega) ?_
                (refine qis ?_ ?_ <;> (repeat' first | exact rfl | (refine qS ?_; constructor)))
                · simp [ptR_len]
                · rw [show k + 2 = k + 1 + 1 from rfl, ptR_succ, ee, if_neg h, ← f1, ← e1]
        · have : k = B.length + 1 := by omega
          subst this
          (repeat' first | (refine Owe.same ?_; first | refine Owe.o ?_ | refine Owe.mk ?_ ?_) | (refine Fork.same ?_; (first | refine fkD ?_ ?_ | refine fkN ?_ ?_ | refine fkM ?_ ?_) <;> (intro h; try (exfalso; omega))))
          refine MvQ.frz 5 1 rfl rfl (Nat.le_refl _) ?_
          (repeat' first | (refine Owe.same ?_; first | refine Owe.o ?_ | refine Owe.mk ?_ ?_) | (refine Fork.same ?_; (first | refine fkD ?_ ?_ | refine fkN ?_ ?_ | refine fkM ?_ ?_) <;> (intro h; try (exfalso; omega))) | refine MvQ.stay ?_)
          refine again (i + 1) [2] hlt (by omega) ?_
          (refine qis ?_ ?_ <;> (repeat' first | exact rfl | (refine qS ?_; constructor)))
          · simp [ptL_len]
          · exact ⟨_, rfl, ptL_succ⟩
    · have : i = A.length + 1 := by omega
      subst this
      (repeat' first | (refine Owe.same ?_; first | refine Owe.o ?_ | refine Owe.mk ?_ ?_) | (refine Fork.same ?_; (first | refine fkD ?_ ?_ | refine fkN ?_ ?_ | refine fkM ?_ ?_) <;> intro h) | refine MvQ.stay ?_)
      refine rqF 0 _ rfl rfl rfl ?_; (repeat' first | exact rfl | (refine qS ?_; constructor))
end Go.Pw
