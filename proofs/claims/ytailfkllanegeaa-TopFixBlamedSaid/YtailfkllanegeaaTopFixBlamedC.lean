/- Steps toward the row of this claim: part 3 of 5. Proved as named below, on no condition but those that each theorem states. -/
import Derived.Test.YtailfkllanegeaaTopFixBlamedB
import Derived.ProofKit
import Derived.Deep.Slices
import Derived.LoopNIn
import Derived.Test.YtailfkllanegeaaProg
set_option linter.unusedVariables false
namespace Go.Pw
open Go Go.RowKit
structure Owe (p q : Prop) : Prop where
  l : p
  r : q
structure Fork (b : Bool) (p q : Prop) : Prop where
  t : b = true → p
  f : b = false → q
theorem Fork.dec {x p q : Prop} [h : Decidable x] (h1 : x → p) (h2 : ¬ x → q) : Fork (decide x) p q := ⟨fun h => h1 (of_decide_eq_true h), fun h => h2 (of_decide_eq_false h)⟩
theorem Fork.ndec {x p q : Prop} [h : Decidable x] (h1 : ¬ x → p) (h2 : x → q) : Fork (!decide x) p q := ⟨fun h => h1 (by simpa using h), fun h => h2 (by simpa using h)⟩
def flush : Option Prop → Prop → Prop
  | none, q => q
  | some p, q => Owe p q
def andO : Option Prop → Prop → Option Prop
  | none, q => some q
  | some p, q => some (p ∧ q)
def okO : Option Prop → Prop
  | none => True
  | some p => p
theorem flush_iff {p : Option Prop} {q : Prop} (h : flush p q) : okO p ∧ q := by
  cases p with
  | none => exact ⟨trivial, h⟩
  | some p => exact ⟨h.l, h.r⟩
theorem okO_and {p : Option Prop} {q : Prop} (h : okO (andO p q)) : okO p ∧ q := by
  cases p with
  | none => exact ⟨trivial, h⟩
  | some p => exact h
def owesB : BinOp → Bool
  | .add | .sub | .mul | .quo | .rem | .shl | .shr => true
  | _ => false
def owes (ev : Operand → V) : LOp → Bool
  | .bin op _ _ => owesB op
  | .un .neg x => match ev x with
    | .c (.fl _) => false
    | _ => true
  | .cplx _ _ | .reC _ | .imC _ | .mkmap _ | .mset _ _ _ _ | .mget _ _ _ _ | .lenM _ | .cap _ => false
  | .un _ _ => false
  | .load _ _ a => match ev a with
    | .c (.ep _ _ _ _) => true
    | _ => false
  | .store _ a _ => match ev a with
    | .c (.ep _ _ _ _) => true
    | _ => false
  | .mv _ | .nilc _ | .pick _ _ _ | .alloc _ | .box _ | .boxS _ | .build _ _ | .eqA _ _ _ _ | .eqB _ _ _ | .mkfn _ _ | .fld _ _ | .part _ _ _ _ | .ext _ _ | .len _ | .lenS _ | .mm _ _ | .binW _ _ _ => false
  | _ => true
theorem bld_some {R : Type} {ev : Operand → V} : ∀ (ps : List (Nat × Nat × Operand)) (cs : List C) (k : List C → Option R) (r : R), bld ev ps cs k = some r → ∃ cs', k cs' = some r
  | [], cs, k, r, h => ⟨cs, h⟩
  | (off, n, x) :: ps, cs, k, r, h => by
    simp only [bld] at h
    split at h
    · split at h
      · rw [frc_eq] at h; exact bld_some ps _ k r h
      · cases h
    · cases h
theorem eqC_some {R : Type} {ks : List Bool} {xs ys : List C} {k : Bool → Option R} {r : R} (h : eqC ks xs ys k = some r) : ∃ b, k b = some r := by
  obtain ⟨bs, _, h⟩ := eqC_inv h
  exact ⟨_, h⟩
theorem owes_false {ev : Operand → V} {σ σ' : Store} {nx nx' : Nat} {op : LOp} {ob : Prop} {v : V} (hw : owes ev op = false) (h : xop ev σ nx op = some (ob, v, σ', nx')) : ob := by
  have fin : ∀ {ob : Prop} {v0 : V} {σ0 : Store} {nx0 : Nat} {r : Res}, (some (True, v0, σ0, nx0) : Option Res) = some r → r.1 := fun h => by cases h; trivial
  cases op with
  | mv x => simp only [xop] at h; split at h <;> first | (cases h; trivial) | cases h
  | nilc x => simp only [xop] at h; split at h <;> first | (cases h; trivial) | cases h
  | pick c a b =>
    simp only [xop] at h
    split at h
    · split at h <;> first | (cases h; trivial) | cases h
    · split at h <;> first | (cases h; trivial) | cases h
    · cases h
  | alloc z => simp only [xop, zeros_eq] at h; cases h; trivial
  | box x => simp only [xop] at h; split at h <;> first | (cases h; trivial) | cases h
  | build z ps =>
    simp only [xop, zeros_eq] at h
    obtain ⟨_, h⟩ := bld_some _ _ _ _ h
    cases h; trivial
  | store n a x =>
    simp only [owes] at hw
    simp only [xop, frc_eq, frs_eq] at h
    split at h
    · (repeat' split at h) <;> first | (cases h; trivial) | cases h
    · rename_i he; rw [he] at hw; cases hw
    · cases h
  | eqA neg ks x y =>
    simp only [xop] at h
    split at h
    · obtain ⟨_, h⟩ := eqC_some h
      split at h <;> (cases h; trivial)
    · cases h
  | eqB neg x y =>
    simp only [xop] at h
    obtain ⟨_, h, _⟩ := vbool_some h
    obtain ⟨_, h, _⟩ := vbool_some h
    split at h <;> (cases h; trivial)
  | un o x =>
    cases o with
    | neg =>
      simp only [owes] at hw
      simp only [xop] at h
      split at h <;> first | (cases h; done) | (rename_i he; rw [he] at hw; cases hw; done) | (cases h; trivial) | (rename_i he _; cases he)
    | not => simp only [xop] at h; split at h <;> first | (cases h; trivial) | cases h | (rename_i hh _; cases hh)
    | _ => simp only [xop] at h; cases h
  | boxS x =>
    simp only [xop] at h
    split at h
    · obtain ⟨_, _, _, h⟩ := toDs_some _ _ _ h
      cases h; trivial
    · cases h
  | mkfn f caps =>
    simp only [xop] at h
    split at h
    · cases h; trivial
    · split at h
      · obtain ⟨_, _, _, h⟩ := rps_some _ _ _ h
        cases h; trivial
      · obtain ⟨_, _, _, h⟩ := ids_some _ _ _ h
        cases h; trivial
  | fld o x => simp only [xop] at h; split at h <;> first | (cases h; trivial) | cases h
  | part g o n x =>
    simp only [xop] at h
    split at h
    · split at h
      · obtain ⟨_, h⟩ := tkc_some _ _ _ _ h; cases h; trivial
      · split at h <;> first | (cases h; trivial) | cases h
    · cases h
  | ext x i => simp only [xop] at h; (repeat' split at h) <;> first | (cases h; trivial) | cases h
  | len x => simp only [xop] at h; (repeat' split at h) <;> first | (cases h; trivial) | cases h
  | lenS x => simp only [xop] at h; (repeat' split at h) <;> first | (cases h; trivial) | cases h
  | cplx x y => simp only [xop] at h; (repeat' split at h) <;> first | (cases h; trivial) | cases h
  | reC x => simp only [xop] at h; (repeat' split at h) <;> first | (cases h; trivial) | cases h
  | imC x => simp only [xop] at h; (repeat' split at h) <;> first | (cases h; trivial) | cases h
  | mkmap m => simp only [xop] at h; cases h; trivial
  | cap x => simp only [xop] at h; (repeat' split at h) <;> first | (cases h; trivial) | cases h
  | mset m a k x => simp only [xop, frs_eq] at h; (repeat' split at h) <;> first | (cases h; trivial) | cases h
  | lenM x => simp only [xop] at h; (repeat' split at h) <;> first | (cases h; trivial) | cases h
  | mget m ok a k => simp only [xop] at h; (repeat' split at h) <;> first | (cases h; trivial) | cases h
  | mm g xs => simp only [xop] at h; (repeat' split at h) <;> first | (cases h; trivial) | cases h
  | bin o x y =>
    simp only [owes] at hw
    simp only [xop] at h
    split at h
    · split at h
      · rename_i ha
        cases h
        unfold binV at ha
        split at ha
        · rename_i hs; cases o <;> simp [isShift] at hs <;> simp [owesB] at hw
        · split at ha
          · cases o <;> simp [owesB] at hw <;> simp only [arith, Option.some.injEq, Prod.mk.injEq, reduceCtorEq] at ha <;> first | exact ha.1 ▸ trivial | exact ha.elim
          · cases ha
      · cases h
    · cases h
  | binW o x y => simp only [xop] at h; (repeat' split at h) <;> first | (cases h; trivial) | cases h
  | load g n a =>
    simp only [owes] at hw
    simp only [xop] at h
    split at h
    · split at h
      · split at h
        · obtain ⟨_, h⟩ := tkc_some _ _ _ _ h; cases h; trivial
        · split at h <;> first | (cases h; trivial) | cases h
      · cases h
    · split at h
      · obtain ⟨_, h⟩ := tkd_some _ _ _ _ h; cases h; trivial
      · split at h <;> first | (cases h; trivial) | cases h
    · rename_i he; rw [he] at hw; simp at hw
    · cases h
  | _ => simp [owes] at hw
section
variable (P : Program) (N base : Nat)
def frNat {R : Type} (n : Nat) (k : Nat → R) : R :=
  match n with
  | 0 => k 0
  | m + 1 => k (m + 1)
theorem frNat_eq {R : Type} (n : Nat) (k : Nat → R) : frNat n k = k n := by cases n <;> rfl
def newName : LOp → Bool
  | .alloc _ | .box _ | .mkmap _ | .slc _ _ _ _ | .litP _ => true
  | .lit own _ _ _ => own
  | .make own _ _ _ _ _ => own
  | .appendN _ _ _ _ _ _ => true
  | .append own _ _ _ _ _ => own
  | _ => false
def putK {R : Type} (dst : Option Nat) (v : V) (env : List (Nat × V)) (k : List (Nat × V) → R) : R :=
  match dst with
  | some d => k ((d, v) :: env)
  | none => k env
theorem putK_eq {R : Type} {dst : Option Nat} {v : V} {env : List (Nat × V)} {k : List (Nat × V) → R} : putK dst v env k = k (putE env dst v) := by cases dst <;> rfl
structure OpsL (ops : List LIns) (st : St) (K : St → Prop) : Prop where
  h : Ops P N base ops st K
def runI (i : LIns) (env : List (Nat × V)) (σ : Store) (nx : Nat) (p : Option Prop) (k : List (Nat × V) → Store → Nat → Option Prop → Prop) (stuck : Prop) : Prop :=
  match xop (evo env) σ nx i.op with
  | some (ob, v, σ', nx') => match owes (evo env) i.op with
    | true => match newName i.op with
      | true => frNat nx' fun nx' => putK i.dst v env fun env' => k env' σ' nx' (andO p ob)
      | false => putK i.dst v env fun env' => k env' σ' nx' (andO p ob)
    | false => match newName i.op with
      | true => frNat nx' fun nx' => putK i.dst v env fun env' => k env' σ' nx' p
      | false => putK i.dst v env fun env' => k env' σ' nx' p
  | none => flush p stuck
def wpOps : List LIns → List (Nat × V) → Store → Nat → Option Prop → (St → Prop) → Prop
  | [], env, σ, nx, p, K => flush p (K ⟨env, σ, nx⟩)
  | i :: os, env, σ, nx, p, K => match guardOf env i.guard with
    | .run => runI i env σ nx p (fun env σ nx p => wpOps os env σ nx p K) (OpsL P N base (i :: os) ⟨env, σ, nx⟩ K)
    | .skip => putK i.dst (.tup []) env fun env => wpOps os env σ nx p K
    | .stop => match i.guard with
      | some (t, want) => match lk env t with
        | .c (.d (.v (.bool b))) => match want with
          | true => flush p (Fork b (runI i ((t, .c .tru) :: env) σ nx none (fun env σ nx p => wpOps os env σ nx p K) (OpsL P N base (i :: os) ⟨(t, .c .tru) :: env, σ, nx⟩ K))
              (putK i.dst (.tup []) ((t, .c .fls) :: env) fun env => wpOps os env σ nx none K))
          | false => flush p (Fork b (putK i.dst (.tup []) ((t, .c .tru) :: env) fun env => wpOps os env σ nx none K)
              (runI i ((t, .c .fls) :: env) σ nx none (fun env σ nx p => wpOps os env σ nx p K) (OpsL P N base (i :: os) ⟨(t, .c .fls) :: env, σ, nx⟩ K)))
        | _ => flush p (OpsL P N base (i :: os) ⟨env, σ, nx⟩ K)
      | none => flush p (OpsL P N base (i :: os) ⟨env, σ, nx⟩ K)
variable {P N base}
theorem runI_spec {i : LIns} {os : List LIns} {env : List (Nat × V)} {σ : Store} {nx : Nat} {p : Option Prop} {K : St → Prop} (hg : guardOf env i.guard = .run)
    (ih : ∀ env σ nx p, wpOps P N base os env σ nx p K → okO p ∧ Ops P N base os ⟨env, σ, nx⟩ K)
    (h : runI i env σ nx p (fun env σ nx p => wpOps P N base os env σ nx p K) (OpsL P N base (i :: os) ⟨env, σ, nx⟩ K)) : okO p ∧ Ops P N base (i :: os) ⟨env, σ, nx⟩ K := by
  unfold runI at h
  split at h
  · rename_i ob v σ' nx' hx
    simp only [frNat_eq, putK_eq] at h
    have hgo : ∀ p', wpOps P N base os (putE env i.dst v) σ' nx' p' K → (okO p' → okO p ∧ ob) → okO p ∧ Ops P N base (i :: os) ⟨env, σ, nx⟩ K := fun p' h hp => by
      obtain ⟨h1, h2⟩ := ih _ _ _ _ h
      obtain ⟨h3, h4⟩ := hp h1
      exact ⟨h3, Ops.step (st := ⟨env, σ, nx⟩) (guardOf_run hg) hx h4 h2⟩
    split at h
    · split at h
      · exact hgo _ h okO_and
      · exact hgo _ h okO_and
    · rename_i hw
      split at h
      · exact hgo _ h fun hp => ⟨hp, owes_false hw hx⟩
      · exact hgo _ h fun hp => ⟨hp, owes_false hw hx⟩
  · exact ⟨(flush_iff h).1, (flush_iff h).2.h⟩
theorem Ops.know' {ops : List LIns} {env : List (Nat × V)} {σ : Store} {nx : Nat} {K : St → Prop} (t : Nat) (b : Bool) (h : lk env t = vbl b) (hf : Fork b (Ops P N base ops ⟨(t, .c .tru) :: env, σ, nx⟩ K) (Ops P N base ops ⟨(t, .c .fls) :: env, σ, nx⟩ K)) : Ops P N base ops ⟨env, σ, nx⟩ K :=
  Ops.know (st := ⟨env, σ, nx⟩) t b h hf.t hf.f
theorem wpOps_spec : ∀ (ops : List LIns) (env : List (Nat × V)) (σ : Store) (nx : Nat) (p : Option Prop) (K : St → Prop), wpOps P N base ops env σ nx p K → okO p ∧ Ops P N base ops ⟨env, σ, nx⟩ K
  | [], env, σ, nx, p, K, h => by
    obtain ⟨h1, h2⟩ := flush_iff h
    exact ⟨h1, Ops.nil h2⟩
  | i :: os, env, σ, nx, p, K, h => by
    have ih := fun env σ nx p => wpOps_spec os env σ nx p K
    have hskip : ∀ env, guardOf env i.guard = .skip → ∀ p, (putK i.dst (.tup []) env fun env => wpOps P N base os env σ nx p K) → okO p ∧ Ops P N base (i :: os) ⟨env, σ, nx⟩ K := fun env hg p h => by
      rw [putK_eq] at h
      obtain ⟨h1, h2⟩ := ih _ _ _ _ h
      exact ⟨h1, Ops.skip (st := ⟨env, σ, nx⟩) (guardOf_skip hg) h2⟩
    unfold wpOps at h
    split at h
    · rename_i hg; exact runI_spec hg ih h
    · rename_i hg; exact hskip env hg p h
    · rename_i hg
      split at h
      · rename_i t want hgu
        have gT : guardOf ((t, .c .tru) :: env) i.guard = (match want with | true => .run | false => .skip) := by
          cases want <;> simp [hgu, guardOf, lk_cons]
        have gF : guardOf ((t, .c .fls) :: env) i.guard = (match want with | true => .skip | false => .run) := by
          cases want <;> simp [hgu, guardOf, lk_cons]
        split at h
        · rename_i b hb
          split at h
          · obtain ⟨h1, h2⟩ := flush_iff h
            exact ⟨h1, Ops.know' t b hb ⟨fun hh => (runI_spec gT ih (h2.t hh)).2, fun hh => (hskip _ gF _ (h2.f hh)).2⟩⟩
          · obtain ⟨h1, h2⟩ := flush_iff h
            exact ⟨h1, Ops.know' t b hb ⟨fun hh => (hskip _ gT _ (h2.t hh)).2, fun hh => (runI_spec gF ih (h2.f hh)).2⟩⟩
        · exact ⟨(flush_iff h).1, (flush_iff h).2.h⟩
      · exact ⟨(flush_iff h).1, (flush_iff h).2.h⟩
theorem Ops.wp {ops : List LIns} {env : List (Nat × V)} {σ : Store} {nx : Nat} {K : St → Prop} (h : wpOps P N base ops env σ nx none K) : Ops P N base ops ⟨env, σ, nx⟩ K := (wpOps_spec _ _ _ _ _ _ h).2
end
end Go.Pw
set_option linter.unusedVariables false
namespace Go.Pw
open Go Go.RowKit
section
variable (P : Program) (N base : Nat) (M : List Nat)
def isLoad : LOp → Bool
  | .load _ _ _ => true
  | _ => false
theorem load_same {ev : Operand → V} {σ σ' : Store} {nx nx' : Nat} {op : LOp} {ob : Prop} {v : V} (hl : isLoad op = true) (h : xop ev σ nx op = some (ob, v, σ', nx')) : σ' = σ := by
  cases op with
  | load g n a =>
    simp only [xop] at h
    split at h
    · split at h
      · split at h
        · obtain ⟨_, h⟩ := tkc_some _ _ _ _ h; cases h; rfl
        · split at h <;> first | (cases h; rfl) | cases h
      · cases h
    · split at h
      · obtain ⟨_, h⟩ := tkd_some _ _ _ _ h; cases h; rfl
      · split at h <;> first | (cases h; rfl) | cases h
    · split at h
      · split at h
        · split at h
          · obtain ⟨_, h⟩ := tkd_some _ _ _ _ h; cases h; rfl
          · split at h <;> first | (cases h; rfl) | cases h
        · cases h
      · cases h
    · cases h
  | _ => simp [isLoad] at hl
def runID (i : LIns) (env : List (Nat × V)) (σ : Store) (nx : Nat) (p : Option Prop) (acc : List (Bool × List Nat)) (k : List (Nat × V) → Store → Nat → Option Prop → List (Bool × List Nat) → Prop) (stuck : Prop) : Prop :=
  match xop (evo env) (pickS σ (foot (evo env) i.op)) nx i.op with
  | some (ob, v, σ1, _) => match owes (evo env) i.op with
    | true => match foot (evo env) i.op, σ1 with
      | [], [] => frNat (nx + 1) fun nx' => putK i.dst v env fun env' => k env' σ nx' (andO p ob) ((true, []) :: acc)
      | ft, σ1 => frS (app (pickS σ ft) σ1 σ) fun σ' => frN (dom (pickS σ ft) ++ dom σ1) fun fp => frNat (nx + 1) fun nx' => putK i.dst v env fun env' => k env' σ' nx' (andO p ob) ((isLoad i.op, fp) :: acc)
    | false => match foot (evo env) i.op, σ1 with
      | [], [] => frNat (nx + 1) fun nx' => putK i.dst v env fun env' => k env' σ nx' p ((true, []) :: acc)
      | ft, σ1 => frS (app (pickS σ ft) σ1 σ) fun σ' => frN (dom (pickS σ ft) ++ dom σ1) fun fp => frNat (nx + 1) fun nx' => putK i.dst v env fun env' => k env' σ' nx' p ((isLoad i.op, fp) :: acc)
  | none => flush p stuck
abbrev OpsD' (ops : List LIns) (st : St) (acc : List (Bool × List Nat)) (K : St → Prop) : Prop := OpsD P N base M 0 [] ops st acc K
structure OpsDL (ops : List LIns) (st : St) (acc : List (Bool × List Nat)) (K : St → Prop) : Prop where
  h : OpsD P N base M 0 [] ops st acc K
def wpD : List LIns → List (Nat × V) → Store → Nat → Option Prop → List (Bool × List Nat) → (St → Prop) → Prop
  | [], env, σ, nx, p, acc, K => match fpAll M 0 acc.reverse with
    | true => flush p (K ⟨env, σ, nx⟩)
    | false => False
  | i :: os, env, σ, nx, p, acc, K => match guardOf env i.guard with
    | .run => runID i env σ nx p acc (fun env σ nx p acc => wpD os env σ nx p acc K) (OpsDL P N base M (i :: os) ⟨env, σ, nx⟩ acc K)
    | .skip => putK i.dst (.tup []) env fun env => wpD os env σ nx p ((true, []) :: acc) K
    | .stop => match i.guard with
      | some (t, want) => match lk env t with
        | .c (.d (.v (.bool b))) => match want with
          | true => flush p (Fork b (runID i ((t, .c .tru) :: env) σ nx none acc (fun env σ nx p acc => wpD os env σ nx p acc K) (OpsDL P N base M (i :: os) ⟨(t, .c .tru) :: env, σ, nx⟩ acc K))
              (putK i.dst (.tup []) ((t, .c .fls) :: env) fun env => wpD os env σ nx none ((true, []) :: acc) K))
          | false => flush p (Fork b (putK i.dst (.tup []) ((t, .c .tru) :: env) fun env => wpD os env σ nx none ((true, []) :: acc) K)
              (runID i ((t, .c .fls) :: env) σ nx none acc (fun env σ nx p acc => wpD os env σ nx p acc K) (OpsDL P N base M (i :: os) ⟨(t, .c .fls) :: env, σ, nx⟩ acc K)))
        | _ => flush p (OpsDL P N base M (i :: os) ⟨env, σ, nx⟩ acc K)
      | none => flush p (OpsDL P N base M (i :: os) ⟨env, σ, nx⟩ acc K)
variable {P N base M}
theorem runID_spec {i : LIns} {os : List LIns} {env : List (Nat × V)} {σ : Store} {nx : Nat} {p : Option Prop} {acc : List (Bool × List Nat)} {K : St → Prop} (hg : guardOf env i.guard = .run)
    (ih : ∀ env σ nx p acc, wpD P N base M os env σ nx p acc K → okO p ∧ OpsD' P N base M os ⟨env, σ, nx⟩ acc K)
    (h : runID i env σ nx p acc (fun env σ nx p acc => wpD P N base M os env σ nx p acc K) (OpsDL P N base M (i :: os) ⟨env, σ, nx⟩ acc K)) : okO p ∧ OpsD' P N base M (i :: os) ⟨env, σ, nx⟩ acc K := by
  unfold runID at h
  split at h
  · rename_i ob v σ1 nx1 hx
    simp only [frNat_eq, putK_eq, frS_eq, frN_eq] at h
    have hgo : ∀ (rd : Bool) p', (rd = true → σ1 = pickS σ (foot (evo env) i.op)) → wpD P N base M os (putE env i.dst v) (app (pickS σ (foot (evo env) i.op)) σ1 σ) (nx + 1) p' ((rd, dom (pickS σ (foot (evo env) i.op)) ++ dom σ1) :: acc) K → (okO p' → okO p ∧ ob) → okO p ∧ OpsD' P N base M (i :: os) ⟨env, σ, nx⟩ acc K := fun rd p' hrd h hp => by
      obtain ⟨h1, h2⟩ := ih _ _ _ _ _ h
      obtain ⟨h3, h4⟩ := hp h1
      exact ⟨h3, OpsD.step (k := 0) (st := ⟨env, σ, nx⟩) (VStep.xop hg hx h4) (pickS_sub _) (Nat.le_refl _) (Nat.le_succ _) rd hrd h2⟩
    split at h
    · split at h
      · rename_i hft
        have := fun p' => hgo true p' (fun _ => by rw [hft]; rfl)
        simp only [hft, pickS, app, catS, dom, delD, List.append_nil] at this
        exact this _ h okO_and
      · exact hgo _ _ (fun hl => load_same hl hx) h okO_and
    · rename_i hw
      split at h
      · rename_i hft
        have := fun p' => hgo true p' (fun _ => by rw [hft]; rfl)
        simp only [hft, pickS, app, catS, dom, delD, List.append_nil] at this
        exact this _ h fun hp => ⟨hp, owes_false hw hx⟩
      · exact hgo _ _ (fun hl => load_same hl hx) h fun hp => ⟨hp, owes_false hw hx⟩
  · exact ⟨(flush_iff h).1, (flush_iff h).2.h⟩
theorem OpsD.know' {ops : List LIns} {env : List (Nat × V)} {σ : Store} {nx : Nat} {acc : List (Bool × List Nat)} {K : St → Prop} (t : Nat) (b : Bool) (h : lk env t = vbl b) (hf : Fork b (OpsD' P N base M ops ⟨(t, .c .tru) :: env, σ, nx⟩ acc K) (OpsD' P N base M ops ⟨(t, .c .fls) :: env, σ, nx⟩ acc K)) : OpsD' P N base M ops ⟨env, σ, nx⟩ acc K :=
  OpsD.know (st := ⟨env, σ, nx⟩) t b h hf.t hf.f
theorem wpD_spec : ∀ (ops : List LIns) (env : List (Nat × V)) (σ : Store) (nx : Nat) (p : Option Prop) (acc : List (Bool × List Nat)) (K : St → Prop), wpD P N base M ops env σ nx p acc K → okO p ∧ OpsD' P N base M ops ⟨env, σ, nx⟩ acc K
  | [], env, σ, nx, p, acc, K, h => by
    unfold wpD at h
    split at h
    · rename_i hf
      obtain ⟨h1, h2⟩ := flush_iff h
      exact ⟨h1, OpsD.nil hf h2⟩
    · exact h.elim
  | i :: os, env, σ, nx, p, acc, K, h => by
    have ih := fun env σ nx p acc => wpD_spec os env σ nx p acc K
    have hskip : ∀ env, guardOf env i.guard = .skip → ∀ p, (putK i.dst (.tup []) env fun env => wpD P N base M os env σ nx p ((true, []) :: acc) K) → okO p ∧ OpsD' P N base M (i :: os) ⟨env, σ, nx⟩ acc K := fun env hg p h => by
      rw [putK_eq] at h
      obtain ⟨h1, h2⟩ := ih _ _ _ _ _ h
      exact ⟨h1, OpsD.step (k := 0) (σ0 := []) (σ1 := []) (st := ⟨env, σ, nx⟩) (VStep.skip (lo := nx) hg) (fun id e h => by simp [get] at h) (Nat.le_refl _) (Nat.le_refl _) true (fun _ => rfl) h2⟩
    unfold wpD at h
    split at h
    · rename_i hg; exact runID_spec hg ih h
    · rename_i hg; exact hskip env hg p h
    · rename_i hg
      split at h
      · rename_i t want hgu
        have gT : guardOf ((t, .c .tru) :: env) i.guard = (match want with | true => .run | false => .skip) := by
          cases want <;> simp [hgu, guardOf, lk_cons]
        have gF : guardOf ((t, .c .fls) :: env) i.guard = (match want with | true => .skip | false => .run) := by
          cases want <;> simp [hgu, guardOf, lk_cons]
        split at h
        · rename_i b hb
          split at h
          · obtain ⟨h1, h2⟩ := flush_iff h
            exact ⟨h1, OpsD.know' t b hb ⟨fun hh => (runID_spec gT ih (h2.t hh)).2, fun hh => (hskip _ gF _ (h2.f hh)).2⟩⟩
          · obtain ⟨h1, h2⟩ := flush_iff h
            exact ⟨h1, OpsD.know' t b hb ⟨fun hh => (hskip _ gT _ (h2.t hh)).2, fun hh => (runID_spec gF ih (h2.f hh)).2⟩⟩
        · exact ⟨(flush_iff h).1, (flush_iff h).2.h⟩
      · exact ⟨(flush_iff h).1, (flush_iff h).2.h⟩
theorem OpsD.wp {ops : List LIns} {env : List (Nat × V)} {σ : Store} {nx : Nat} {acc : List (Bool × List Nat)} {K : St → Prop} (h : wpD P N base M ops env σ nx none acc K) : OpsD' P N base M ops ⟨env, σ, nx⟩ acc K := (wpD_spec _ _ _ _ _ _ _ h).2
end
theorem Mv.nilms {base : Nat} {env : List (Nat × V)} {σ : Store} {nx : Nat} (t : Nat) (e : TypeId) (s : Nat) (f : Nat → List D) (h : lk env t = .c (.d (.v (.slice none 0 0)))) : Mv base ⟨env, σ, nx⟩ ⟨(t, .c (.ms nx 0)) :: env, (nx, .row e s 0 f false) :: σ, nx + 1⟩ :=
  fun _ _ _ _ _ hc => hc.nilms (st := ⟨env, σ, nx⟩) e s f h
theorem Mv.freeze {base : Nat} {env : List (Nat × V)} {σ : Store} {nx : Nat} (t id : Nat) {n : Nat} {e : TypeId} {s m : Nat} {f : Nat → List D} {fz : Bool} (h : lk env t = .c (.ms id n)) (hg : get σ id = some (.row e s m f fz)) (hn : n ≤ m) :
    Mv base ⟨env, σ, nx⟩ ⟨(t, .c (.d (.sl s n f))) :: env, set σ id (.row e s m f true), nx⟩ := fun N B0 Γ w a hc => by
  obtain ⟨Γ', b, hb, rfl, h1, h2⟩ := hc.freeze hg
  refine ⟨_, ⟨h1.size, fun t' => ?_, h1.ok, h1.free, h1.le, h1.dfs⟩, h2⟩
  rw [lk_cons]
  split
  · rename_i ht
    subst ht
    have := hc.env t
    rw [h] at this
    cases this with
    | c _ _ hr =>
      obtain ⟨b', hb', hd⟩ := ms_data hc.ok hg hn hr
      rw [hb] at hb'; cases hb'
      exact .c _ _ (hd _ (fun k hk => .inl hk) (fun hcc => .inr ⟨rfl, hcc⟩))
  · exact h1.env t'
theorem Mv.env {base : Nat} {env env' : List (Nat × V)} {σ : Store} {nx : Nat} (h : ∀ t, RI (lk env t) (lk env' t)) : Mv base ⟨env, σ, nx⟩ ⟨env', σ, nx⟩ := fun _ _ Γ _ _ hc => ⟨Γ, hc.same h fun _ => rfl, Ext.refl _ _ _ _⟩
theorem Mv.dd {base : Nat} {env : List (Nat × V)} {σ : Store} {nx : Nat} : Mv base ⟨env, σ, nx⟩ ⟨Pw.dd env [], σ, nx⟩ :=
  Mv.env fun t => by rw [lk_dd _ _ _ (by simp)]; exact RI.refl _
structure MvQ (base : Nat) (Q : Exit → St → Prop) (e : Exit) (st : St) : Prop where
  h : ∃ st1, Mv base st st1 ∧ Q e st1
section
variable {P : Program} {N base : Nat} {st st1 : St} {Q : Exit → St → Prop} {x : LCode}
theorem Sat.mv (h : Sat P N base x st (MvQ base Q)) : Sat P N base x st Q := by
  intro ro n B0 own code hro hl Γ0 Γ w0 w σ0 a hc hext
  refine wpIn_mono (h ro n B0 own code hro hl Γ0 Γ w0 w σ0 a hc hext) (fun e a' w' ⟨Γ', st', h1, h2, ⟨st2, h3, h4⟩⟩ => ?_)
  obtain ⟨Γ'', h5, h6⟩ := h3 _ _ _ _ _ h1
  exact ⟨Γ'', st2, h5, h2.trans h6, h4⟩
theorem Sat.from (hm : Mv base st st1) (h : Sat P N base x st1 Q) : Sat P N base x st Q := by
  intro ro n B0 own code hro hl Γ0 Γ w0 w σ0 a hc hext
  obtain ⟨Γ', h1, h2⟩ := hm _ _ _ _ _ hc
  exact h ro n B0 own code hro hl Γ0 Γ' w0 w σ0 a h1 (hext.trans h2)
theorem Ops.from {ops : List LIns} {K : St → Prop} (hm : Mv base st st1) (h : Ops P N base ops st1 K) : Ops P N base ops st K := by
  intro ro n B0 own opsA idx os hl hidx Γ0 Γ w0 w σ0 a hc hext
  obtain ⟨Γ', h1, h2⟩ := hm _ _ _ _ _ hc
  exact h ro n B0 own opsA idx os hl hidx Γ0 Γ' w0 w σ0 a h1 (hext.trans h2)
theorem MvQ.stay {e : Exit} (h : Q e st) : MvQ base Q e st := ⟨st, Mv.refl _ _, h⟩
theorem MvQ.from {e : Exit} (hm : Mv base st st1) (h : MvQ base Q e st1) : MvQ base Q e st := by
  obtain ⟨s2, h1, h2⟩ := h
  exact ⟨s2, hm.trans h1, h2⟩
end
section
variable (P : Program) (N base : Nat)
structure SatL (x : LCode) (st : St) (Q : Exit → St → Prop) : Prop where
  h : Sat P N base x.strip st Q
def wp : LCode → St → (Exit → St → Prop) → Prop
  | .skip, st, Q => Q .normal st
  | .exit id, st, Q => Q (.exit id) st
  | .ret, st, Q => Q .ret st
  | .region ops, ⟨env, σ, nx⟩, Q => wpOps P N base ops env σ nx none fun st => Q .normal st
  | .regionD ops M _, ⟨env, σ, nx⟩, Q => wpD P N base M ops env σ nx none [] fun st => Q .normal st
  | .seq a b, st, Q => wp a st fun e st => match e with
    | .normal => wp b st Q
    | e => Q e st
  | .cond c a b, ⟨env, σ, nx⟩, Q => match evo env c with
    | .c .tru => wp a ⟨env, σ, nx⟩ Q
    | .c .fls => wp b ⟨env, σ, nx⟩ Q
    | .c (.d (.v (.bool p))) => match c with
      | .tmp t => Fork p (wp a ⟨(t, .c .tru) :: env, σ, nx⟩ Q) (wp b ⟨(t, .c .fls) :: env, σ, nx⟩ Q)
      | _ => False
    | _ => False
  | .block id a, st, Q => wp a st fun e st => match e with
    | .exit k => match Nat.beq k id with
      | true => Q .normal st
      | false => Q (.exit k) st
    | e => Q e st
  | .loop a, st, Q => SatL P N base (.loop a) st (MvQ base Q)
  | .rangeFunc f ps a c, st, Q => SatL P N base (.rangeFunc f ps a c) st (MvQ base Q)
  | .label, st, Q => Q .normal st
  | .stop a, st, Q => SatL P N base a st Q
  | .scope a, st, Q => wp a st fun e st => match e with
    | .goto _ => False
    | e => Q e st
variable {P N base}
theorem wp_spec [m : Mix P] : ∀ (x : LCode) (st : St) (Q : Exit → St → Prop), wp P N base x st Q → Sat P N base x.strip st Q
  | .skip, st, Q, h => Sat.skip h
  | .exit id, st, Q, h => Sat.exit h
  | .ret, st, Q, h => Sat.ret h
  | .region ops, ⟨env, σ, nx⟩, Q, h => Sat.region (Ops.wp h)
  | .regionD ops M ks, ⟨env, σ, nx⟩, Q, h => Sat.drawn m.h (OpsD.wp h)
  | .seq a b, st, Q, h => Sat.seq ((wp_spec a st _ h).mono fun e st h => by
    cases e with
    | normal => exact wp_spec b st Q h
    | _ => exact h)
  | .cond c a b, ⟨env, σ, nx⟩, Q, h => by
    unfold wp at h
    split at h
    · rename_i hv; exact Sat.condT hv (wp_spec a _ Q h)
    · rename_i hv; exact Sat.condF hv (wp_spec b _ Q h)
    · rename_i p hv
      split at h
      · exact Sat.cond hv (fun hh => wp_spec a _ Q (h.t hh)) (fun hh => wp_spec b _ Q (h.f hh))
      · exact h.elim
    · exact h.elim
  | .block id a, st, Q, h => Sat.block ((wp_spec a st _ h).mono fun e st h => by
    cases e with
    | exit k =>
      simp only [blockQ]
      simp only at h
      split at h
      · rename_i hb; rw [if_pos hb]; exact h
      · rename_i hb; rw [if_neg (by rw [hb]; simp)]; exact h
    | _ => exact h)
  | .loop a, st, Q, h => Sat.mv h.h
  | .rangeFunc f ps a c, st, Q, h => Sat.mv h.h
  | .label, st, Q, h => Sat.label h
  | .stop a, st, Q, h => h.h
  | .scope a, st, Q, h => Sat.scope ((wp_spec a st _ h).mono fun e st h => by
    cases e with
    | goto l => exact h.elim
    | _ => exact h)
end
end Go.Pw
set_option linter.unusedVariables false
namespace Go.Pw
open Go Go.RowKit
section
variable {P : Program} {N base : Nat} {st : St} {Q : Exit → St → Prop}
theorem low_rangeFunc {own : List Nat} {code : Code} {f : Operand} {ps : List Nat} {la lb : LCode} (h : lowCode P N own code = some (.rangeFunc f ps la lb)) :
    ∃ qs a c, code = .rangeFunc f qs a c ∧ qs.toList = ps ∧ lowCode P N own a = some la ∧ lowCode P N own c = some lb := by
  cases code with
  | rangeFunc g qs a c =>
    simp only [lowCode, Option.bind_eq_bind, Option.bind_eq_some_iff, Option.some.injEq] at h
    obtain ⟨x, hx, y, hy, h⟩ := h
    cases h
    exact ⟨qs, a, c, rfl, rfl, hx, hy⟩
  | region id ops draw =>
    simp only [lowCode, Option.bind_eq_bind, Option.bind_eq_some_iff] at h
    obtain ⟨l, hl, h⟩ := h
    split at h
    · split at h <;> simp at h
    · simp at h
  | _ => simp [lowCode, Option.bind_eq_some_iff] at h
theorem alloc_mark {base : Nat} {Γ : Cx} {w : World} {σ : Store} (h : StoreOk Γ w σ) (o : Obj) : StoreOk Γ (w.alloc o) σ ∧ Ext base Γ w σ Γ (w.alloc o) σ :=
  ⟨h.keep (CxLe.refl _) (fun k hI => by have := h.im k hI; simp; omega) (alloc_same h o) (fun k hl => heap_alloc (h.live_lt hl)) (fun k hl hI => h.not_live hI hl),
    Ext.grow (Γ := Γ) (Γ' := Γ) (w := w) (w' := w.alloc o) (fun _ _ => rfl) (fun _ _ => rfl) (fun _ h => h) (fun k h => .inl h) rfl rfl rfl (by simp) (fun k hk _ => heap_alloc hk) _ (fun k hk => .inl hk)⟩
def rangeQ (id : Nat) (env : List (Nat × V)) (Q : Exit → St → Prop) (σ' : Store) (nx' : Nat) : Prop :=
  match get σ' id with
  | some (.lp _ .ready none _) => Q .normal ⟨env, del σ' id, nx'⟩
  | some (.lp _ .done (some .ret) _) => Q .ret ⟨env, del σ' id, nx'⟩
  | some (.lp _ .done (some (.exit k)) _) => Q (.exit k) ⟨env, del σ' id, nx'⟩
  | _ => False
theorem rangeQ_iff {id : Nat} {env : List (Nat × V)} {σ' : Store} {nx' : Nat} (h : rangeQ id env Q σ' nx') :
    ∃ env' s j R, get σ' id = some (.lp env' s j R) ∧ s ≠ .busy ∧ ((j = none ∧ Q .normal ⟨env, del σ' id, nx'⟩) ∨ (j = some .ret ∧ Q .ret ⟨env, del σ' id, nx'⟩) ∨ ∃ k, j = some (.exit k) ∧ Q (.exit k) ⟨env, del σ' id, nx'⟩) := by
  unfold rangeQ at h
  split at h
  · rename_i e R hg; exact ⟨_, _, _, _, hg, by simp, .inl ⟨rfl, h⟩⟩
  · rename_i e R hg; exact ⟨_, _, _, _, hg, by simp, .inr (.inl ⟨rfl, h⟩)⟩
  · rename_i e k R hg; exact ⟨_, _, _, _, hg, by simp, .inr (.inr ⟨_, rfl, h⟩)⟩
  · exact h.elim
theorem Sat.rangeFunc {f : Operand} {ps : List Nat} {la lb : LCode} {fid : FuncId} {ids : List Nat} (hf : evo st.env f = .c (.fn fid ids)) (hps : ps.all (fun p => decide (p < N)) = true)
    (h : CallS P fid (.c (.yd st.nx) :: ids.map fun k => .c (.bp k 0)) ((st.nx, .lp st.env .ready none (RR P N ps la lb)) :: st.σ) (st.nx + 1) fun _ σ' nx' => rangeQ st.nx st.env Q σ' nx') :
    Sat P N base (.rangeFunc f ps la lb) st Q := by
  intro ro n B0 own code hro hl Γ0 Γ w0 w σ0 a hc hext
  obtain ⟨qs, ca, cb, rfl, hqs, hla, hlb⟩ := low_rangeFunc hl
  have hro' := hro rfl
  subst hro'
  have hfr := hc.ev f
  rw [hf] at hfr
  obtain ⟨bs, hbl, hbs, hfu⟩ : ∃ bs : List Nat, bs.length = ids.length ∧ (∀ (j i : Nat), ids[j]? = some i → ∃ b, Γ.ρ i = some b ∧ bs[j]? = some b) ∧ a.eval f = .func (.func fid) #[] (bs.map fun b => ptr b 0).toArray := by
    generalize a.eval f = u at hfr ⊢
    cases hfr with | c _ _ h => exact h
  refine wpIn_rangeFunc (fun fn _ => ?_)
  let wa := w.alloc (.deferred (some []))
  have hsza : wa.heap.size = w.heap.size + 1 := by simp [wa]
  let r0 : Loop := { state := .ready, pending := none, fn, tmps := a.tmps, params := qs, assign := ca, body := cb, defers := w.heap.size }
  let w1 := wa.alloc (.loop r0)
  obtain ⟨hsta, hexta⟩ := alloc_mark (base := st.nx) hc.ok (.deferred (some []))
  have hid := hc.free st.nx (Nat.le_refl _)
  have hRR : RR P N ps la lb { r0 with state := .ready, pending := none } :=
    ⟨hc.size, hqs, fun p hp => by simpa using List.all_eq_true.1 hps p hp, own, hla, hlb⟩
  have hent : EntOk (Γ.upd st.nx wa.heap.size none) (wa.alloc (.loop r0)) st.nx wa.heap.size (.lp st.env .ready none (RR P N ps la lb)) := by
    refine ⟨fun hI => ?_, r0, heap_alloc_new' _ _, rfl, rfl, hRR, fun t => ?_⟩
    · have := hc.ok.im _ hI; omega
    · exact (hc.env t).mono (CxLe.upd _ _ _ hid) (fun k hk => by
        have := hc.ok.im k hk
        rw [heap_alloc (by omega), show wa.heap[k]? = w.heap[k]? from heap_alloc this])
  obtain ⟨hst1, hext1⟩ := alloc_ent (base := st.nx) hsta hid (Nat.le_refl _) (.loop r0) none _ hent
  have hrep : RepL (Γ.upd st.nx wa.heap.size none) w1 (.c (.yd st.nx) :: ids.map fun k => .c (.bp k 0)) (#[Value.func (.yield (w.heap.size + 1)) #[] #[]] ++ (bs.map fun b => ptr b 0).toArray) := by
    refine ⟨by simp [hbl], fun j v u hv hu => ?_⟩
    cases j with
    | zero =>
      simp at hv hu
      subst hv; subst hu
      exact .c _ _ ⟨wa.heap.size, upd_ρ_same, by rw [hsza]⟩
    | succ j =>
      simp only [List.getElem?_cons_succ, List.getElem?_map, Option.map_eq_some_iff] at hv
      obtain ⟨k, hk, rfl⟩ := hv
      obtain ⟨b, hb, hb'⟩ := hbs j k hk
      rw [Array.getElem?_append_right (by simp)] at hu
      simp [hb'] at hu
      subst hu
      refine .c _ _ ⟨b, ?_, rfl⟩
      rw [upd_ρ (fun e => by rw [e] at hb; rw [hid] at hb; cases hb)]; exact hb
  have hfree1 : ∀ id, st.nx + 1 ≤ id → (Γ.upd st.nx wa.heap.size none).ρ id = none := fun id h => by
    rw [upd_ρ (by omega)]; exact hc.free id (by omega)
  have hres : (resolve a.eval (rangeCall f (w.heap.size + 1)) 0).run P w1 = .ok { target := .fn (.func fid) (bs.map fun b => ptr b 0).toArray, args := #[.func (.yield (w.heap.size + 1)) #[] #[]] } w1 := by
    unfold resolve
    simp only [hfu, Deferred.ofValue]
    simp [Act.eval]
  have he : (Instr.enterLoop fn a.tmps qs ca cb (FW none).round).run P w = .ok (w.heap.size + 1, [mkD w.heap.size]) w1 := run_enterLoop_outer fn a.tmps qs ca cb
  have hinv : (invoke (Target.fn (.func fid) (bs.map fun b => ptr b 0).toArray) #[.func (.yield (w.heap.size + 1)) #[] #[]]).run P w1 = .ok (.enter fid (#[.func (.yield (w.heap.size + 1)) #[] #[]] ++ (bs.map fun b => ptr b 0).toArray)) w1 := h.1 _ _
  have hcall := h.2 _ w1 _ hst1 hfree1 hrep
  have hpost : ∀ e w', (∃ u v Γ' σ' nx', e = .returned u ∧ rangeQ st.nx st.env Q σ' nx' ∧ RepV Γ' w' v u ∧ StoreOk Γ' w' σ' ∧ Ext (st.nx + 1) (Γ.upd st.nx wa.heap.size none) w1 ((st.nx, .lp st.env .ready none (RR P N ps la lb)) :: st.σ) Γ' w' σ' ∧ (∀ id, nx' ≤ id → Γ'.ρ id = none) ∧ st.nx + 1 ≤ nx') →
      rangePost (FW none) n P (w.heap.size + 1) (Post N B0 base Γ0 w0 σ0 Q) { a with defers := [mkD w.heap.size] ++ a.defers } e w' := by
    rintro e w' ⟨u, v, Γ', σ', nx', rfl, hR, hv, hst', hext', hfree', hle'⟩
    obtain ⟨env', s, j, R, hlp, hsb, hj⟩ := rangeQ_iff hR
    obtain ⟨b, r, hb, hh, hs, hjr, _, _⟩ := lp_rec hst' hlp
    have hb1 : b = w.heap.size + 1 := by
      rw [hext'.ρ st.nx (Nat.lt_succ_self _), upd_ρ_same] at hb
      cases hb; rw [hsza]
    subst hb1
    have hend := run_endLoop (P := P) hh (by rw [hs]; exact hsb)
    let w4 := w'.putObj (w.heap.size + 1) (.loop { r with state := .exhausted })
    obtain ⟨hst4, hext4⟩ := set_lp (s' := .exhausted) (j' := r.pending) hst' hlp hb hh
    have hsub : Sub (del σ' st.nx) (set σ' st.nx (.lp env' .exhausted r.pending R)) := fun id x hx => by
      by_cases he : id = st.nx
      · subst he; rw [get_del_same] at hx; cases hx
      · rw [get_del_other he] at hx; rw [get_set_other he]; exact hx
    have hst5 : StoreOk Γ' w4 (del σ' st.nx) := hst4.sub hsub
    have hE : Ext st.nx Γ wa st.σ Γ' w4 (del σ' st.nx) := by
      have h1 := (hext1.trans (hext'.mono (Nat.le_succ _))).trans (hext4 st.nx)
      exact ⟨h1.os, h1.tape, h1.output, h1.size, h1.im, h1.new, h1.ρ, h1.κ, h1.keep, fun k hk => h1.live k (live_sub hsub hk)⟩
    have hEw : Ext st.nx Γ w st.σ Γ' w4 (del σ' st.nx) := hexta.trans hE
    have hle : CxLe Γ Γ' := ext_cxle hEw hc.free
    have hsame := hEw.same hc.ok
    have hconc : Conc N B0 base Γ' w4 ⟨st.env, del σ' st.nx, nx'⟩ { a with defers := [mkD w.heap.size] ++ a.defers } := by
      refine ⟨hc.size, fun t => (hc.env t).mono hle hsame, hst5, hfree', by have := hc.le; show base ≤ nx'; omega, ?_⟩
      obtain ⟨Ds, d1, d2, d3⟩ := hc.dfs
      have hnl : ¬ Live Γ st.σ w.heap.size := fun hl => Nat.lt_irrefl _ (hc.ok.live_lt hl)
      refine ⟨w.heap.size :: Ds, by simp [d1], ⟨List.nodup_cons.2 ⟨fun hm => ?_, d2.1⟩, Nat.le_trans d2.2 hEw.size⟩, fun D hD => ?_⟩
      · have := (Array.getElem?_eq_some_iff.1 (d3 _ hm).2.2.2).1; omega
      · rcases List.mem_cons.1 hD with rfl | hD
        · refine ⟨d2.2, fun hi => ?_, fun hlv => ?_, ?_⟩
          · rcases hE.new _ hi with h1 | h1 | h1
            · exact Nat.lt_irrefl _ (hc.ok.im _ h1)
            · omega
            · exact hnl h1
          · rcases hE.live _ hlv with h1 | h1
            · exact hnl h1
            · omega
          · rw [hE.keep _ (by omega) hnl]; exact heap_alloc_new' _ _
        · obtain ⟨d4, d5, d6, d7⟩ := d3 D hD
          have hlt : D < w.heap.size := (Array.getElem?_eq_some_iff.1 d7).1
          refine ⟨d4, fun hi => ?_, fun hlv => ?_, (hEw.keep D hlt d6).trans d7⟩
          · rcases hEw.new D hi with h1 | h1 | h1
            · exact d5 h1
            · omega
            · exact d6 h1
          · rcases hEw.live D hlv with h1 | h1
            · exact d6 h1
            · omega
    have hEx : Ext base Γ0 w0 σ0 Γ' w4 (del σ' st.nx) := hext.trans (hEw.mono hc.le)
    refine ⟨r.pending, w4, hend, ?_⟩
    rcases hj with ⟨rfl, hq⟩ | ⟨rfl, hq⟩ | ⟨k, rfl, hq⟩
    · rw [hjr]; exact ⟨Γ', _, hconc, hEx, hq⟩
    · rw [hjr]; exact wpIn_ret ⟨Γ', _, hconc, hEx, hq⟩
    · rw [hjr]; exact wpIn_exit ⟨Γ', _, hconc, hEx, hq⟩
  exact ⟨w.heap.size + 1, [mkD w.heap.size], w1, _, w1, fid, _, w1, he, hres, fun _ _ => trivial, hinv, fun h => by simp [FW, Fence.wide] at h, Calls.fw (hcall.mono hpost)⟩
end
end Go.Pw
set_option linter.unusedVariables false
set_option linter.unusedSectionVars false
namespace Go.Pw
open Go Go.RowKit
structure FnOk (P : Program) (f : FuncId) (N : Nat) (lc : LCode) (rl : List RL) : Prop where
  ent : Ent1 P f
  ok : ∃ own fn, P.funcs[f]? = some fn ∧ lowF P own fn = some (N, lc.strip, rl)
section
variable {P : Program} [m : Mix P] {N base : Nat}
theorem Sat.of {x : LCode} {st : St} {Q : Exit → St → Prop} (h : wp P N base x st Q) : Sat P N base x.strip st Q := wp_spec x st Q h
theorem SatL.go {x : LCode} {st : St} {Q : Exit → St → Prop} (h : wp P N base x st Q) : SatL P N base x st Q := ⟨wp_spec x st Q h⟩
theorem PFD.of {f : FuncId} {lc : LCode} {rl : List RL} {args vs : List V} (hf : FnOk P f N lc rl) (hN : Nat.ble args.length N = true) (hc : cloL args)
    (h : wp P N 0 lc ⟨argEnv 0 args, [], 0⟩ (RetQ 0 rl vs [] 0)) : PFD P f args (retV vs) := by
  obtain ⟨hent, own, fn, h1, h2⟩ := hf
  exact PFD.enter vs h1 hent h2 (Nat.le_of_ble_eq_true hN) hc (Sat.of h)
def normC : C → C
  | .tru => .d (.v (.bool true))
  | .fls => .d (.v (.bool false))
  | c => c
def normA : V → V
  | .c x => .c (normC x)
  | .agg cs => .agg (cs.map normC)
  | v => v
theorem normC_eq (c : C) : CEq c (normC c) := by cases c <;> first | exact .tru | exact .fls | exact .refl _
theorem normA_eq (v : V) : VEq v (normA v) := by
  cases v with
  | c x => exact .c _ _ (normC_eq x)
  | agg cs =>
    refine .agg _ _ (by simp) (fun i x y hx hy => ?_)
    simp only [List.getElem?_map, hx, Option.map_some, Option.some.injEq] at hy
    subst hy
    exact normC_eq x
  | _ => exact .refl _
theorem ris_norm : ∀ (xs : List V), RIs xs (xs.map normA)
  | [] => .nil
  | x :: xs => .cons (normA_eq x).ri (ris_norm xs)
theorem VEqs.ris : ∀ {xs ys : List V}, VEqs xs ys → RIs xs ys
  | [], [], _ => .nil
  | x :: xs, y :: ys, h => .cons h.1.ri (VEqs.ris h.2)
  | [], _ :: _, h => h.elim
  | _ :: _, [], h => h.elim
structure Fits (env : List (Nat × V)) (xs : List Operand) (args : List V) : Prop where
  h : RIs (xs.map (evo env)) args
theorem Fits.eq {env : List (Nat × V)} {xs : List Operand} {args : List V} (h : (xs.map (evo env)).map normA = args) : Fits env xs args := ⟨h ▸ ris_norm _⟩
theorem Fits.veq {env : List (Nat × V)} {xs : List Operand} {args : List V} (h : VEqs (xs.map (evo env)) args) : Fits env xs args := ⟨h.ris⟩
theorem Ops.pc {dst : Option Nat} {fop : Operand} {xs : List Operand} {g : Option (Nat × Bool)} {rest : List LIns} {env : List (Nat × V)} {σ : Store} {nx : Nat} {K : St → Prop} {f : FuncId} {args : List V} {v : V} (hf : evo env fop = .c (.fn f [])) (ha : Fits env xs args) (hc : PFD P f args v)
    (hg : guardOf env g = .run) (h : putK dst v env fun env' => wpOps P N base rest env' σ nx none K) : OpsL P N base (⟨dst, .call fop xs, g⟩ :: rest) ⟨env, σ, nx⟩ K := by
  rw [putK_eq] at h
  exact ⟨Ops.pcall (i := ⟨dst, .call fop xs, g⟩) (st := ⟨env, σ, nx⟩) hg rfl hf ha.h hc (Ops.wp h)⟩
theorem OpsD.pc {M : List Nat} {acc : List (Bool × List Nat)} {dst : Option Nat} {fop : Operand} {xs : List Operand} {g : Option (Nat × Bool)} {rest : List LIns} {env : List (Nat × V)} {σ : Store} {nx : Nat} {K : St → Prop} {f : FuncId} {args : List V} {v : V} (hf : evo env fop = .c (.fn f [])) (ha : Fits env xs args) (hc : PFD P f args v)
    (hg : guardOf env g = .run) (h : putK dst v env fun env' => wpD P N base M rest env' σ nx none ((false, []) :: acc) K) : OpsDL P N base M (⟨dst, .call fop xs, g⟩ :: rest) ⟨env, σ, nx⟩ acc K := by
  rw [putK_eq] at h
  exact ⟨OpsD.pcall (k := 0) (ks := []) (i := ⟨dst, .call fop xs, g⟩) (st := ⟨env, σ, nx⟩) hg rfl hf ha.h hc (OpsD.wp h)⟩
theorem Ops.pcR {dst : Option Nat} {fop : Operand} {xs : List Operand} {g : Option (Nat × Bool)} {rest : List LIns} {env : List (Nat × V)} {σ : Store} {nx : Nat} {K : St → Prop} {f : FuncId} {rows : List (List D)} {args : List V} {v : V} (hf : evo env fop = .c (.fnR f rows)) (ha : RIs (xs.map (evo env) ++ rows.map fun r => .c (.rp r)) args) (hc : PFD P f args v)
    (hg : guardOf env g = .run) (h : putK dst v env fun env' => wpOps P N base rest env' σ nx none K) : OpsL P N base (⟨dst, .call fop xs, g⟩ :: rest) ⟨env, σ, nx⟩ K := by
  rw [putK_eq] at h
  exact ⟨Ops.pcallR (i := ⟨dst, .call fop xs, g⟩) (st := ⟨env, σ, nx⟩) hg rfl hf ha hc (Ops.wp h)⟩
theorem OpsD.pcR {M : List Nat} {acc : List (Bool × List Nat)} {dst : Option Nat} {fop : Operand} {xs : List Operand} {g : Option (Nat × Bool)} {rest : List LIns} {env : List (Nat × V)} {σ : Store} {nx : Nat} {K : St → Prop} {f : FuncId} {rows : List (List D)} {args : List V} {v : V} (hf : evo env fop = .c (.fnR f rows)) (ha : RIs (xs.map (evo env) ++ rows.map fun r => .c (.rp r)) args) (hc : PFD P f args v)
    (hg : guardOf env g = .run) (h : putK dst v env fun env' => wpD P N base M rest env' σ nx none ((false, []) :: acc) K) : OpsDL P N base M (⟨dst, .call fop xs, g⟩ :: rest) ⟨env, σ, nx⟩ acc K := by
  rw [putK_eq] at h
  exact ⟨OpsD.pcallR (k := 0) (ks := []) (i := ⟨dst, .call fop xs, g⟩) (st := ⟨env, σ, nx⟩) hg rfl hf ha hc (OpsD.wp h)⟩
theorem OpsL.same {ops : List LIns} {st : St} {K : St → Prop} (h : OpsL P N base ops st K) : OpsL P N base ops st K := h
theorem OpsDL.same {M : List Nat} {ops : List LIns} {st : St} {acc : List (Bool × List Nat)} {K : St → Prop} (h : OpsDL P N base M ops st acc K) : OpsDL P N base M ops st acc K := h
theorem Fork.same {b : Bool} {p q : Prop} (h : Fork b p q) : Fork b p q := h
def frV (v : V) (k : V → Prop) : Prop :=
  match v with
  | .c x => k (.c x)
  | .agg cs => k (.agg cs)
  | .tup vs => k (.tup vs)
  | .unk => k .unk
theorem frV_eq (v : V) (k : V → Prop) : frV v k = k v := by cases v <;> rfl
def argK : Nat → List V → (List (Nat × V) → Prop) → Prop
  | _, [], k => k []
  | n, v :: vs, k => frV v fun v => frNat (n + 1) fun n' => argK n' vs fun e => k ((n, v) :: e)
theorem argK_eq : ∀ (vs : List V) (n : Nat) (k : List (Nat × V) → Prop), argK n vs k = k (argEnv n vs)
  | [], n, k => rfl
  | v :: vs, n, k => by simp only [argK, frV_eq, frNat_eq, argK_eq vs, argEnv]
def callQ (rl : List RL) (R : V → Store → Nat → Prop) : Exit → St → Prop
  | .normal, st => match resAll st.env st.σ rl with
    | some vs => R (retV vs) st.σ st.nx
    | none => False
  | .ret, st => match resAll st.env st.σ rl with
    | some vs => R (retV vs) st.σ st.nx
    | none => False
  | _, _ => False
theorem CallS.of {f : FuncId} {lc : LCode} {rl : List RL} {args : List V} {σ : Store} {nx : Nat} {R : V → Store → Nat → Prop} (hf : FnOk P f N lc rl) (hN : Nat.ble args.length N = true)
    (h : argK 0 args fun env => wp P N nx lc ⟨env, σ, nx⟩ (callQ rl R)) : CallS P f args σ nx R := by
  rw [argK_eq] at h
  obtain ⟨hent, own, fn, h1, h2⟩ := hf
  refine CallS.enter h1 hent h2 (Nat.le_of_ble_eq_true hN) ((Sat.of h).mono fun e st h => ?_)
  unfold callQ at h
  split at h
  · split at h
    · rename_i vs hv; exact ⟨.inl rfl, vs, hv, h⟩
    · exact h.elim
  · split at h
    · rename_i vs hv; exact ⟨.inr rfl, vs, hv, h⟩
    · exact h.elim
  · exact h.elim
theorem Ops.cs {dst : Option Nat} {fop : Operand} {xs : List Operand} {g : Option (Nat × Bool)} {rest : List LIns} {env : List (Nat × V)} {σ : Store} {nx : Nat} {K : St → Prop} {f : FuncId} {ids : List Nat} (hf : evo env fop = .c (.fn f ids)) (hg : guardOf env g = .run)
    (h : CallS P f (xs.map (evo env) ++ ids.map fun k => .c (.bp k 0)) σ nx fun v σ' nx' => frV v fun v => frNat nx' fun nx' => putK dst v env fun env' => wpOps P N base rest env' σ' nx' none K) : OpsL P N base (⟨dst, .call fop xs, g⟩ :: rest) ⟨env, σ, nx⟩ K := by
  refine ⟨?_⟩
  refine Ops.callS (i := ⟨dst, .call fop xs, g⟩) (st := ⟨env, σ, nx⟩) hg rfl hf ?_
  simp only [frV_eq, frNat_eq, putK_eq] at h
  exact ⟨h.1, fun Γ w us h1 h2 h3 => (h.2 Γ w us h1 h2 h3).mono fun e w' ⟨u, v, Γ', σ', nx', q1, q2, q3⟩ => ⟨u, v, Γ', σ', nx', q1, Ops.wp q2, q3⟩⟩
structure Again0 {ι : Type} (inv : ι → List (Nat × V)) (pre : ι → Prop) (μ : ι → Nat) (i : ι) (st : St) : Prop where
  h : ∃ j, pre j ∧ μ j < μ i ∧ envIs st.env (inv j)
def lpQ0 {ι : Type} (inv : ι → List (Nat × V)) (pre : ι → Prop) (μ : ι → Nat) (i : ι) (Q : Exit → St → Prop) : Exit → St → Prop
  | .normal, st => Again0 inv pre μ i st
  | e, st => Q e st
structure Again {ι : Type} (base : Nat) (inv : ι → St) (pre : ι → Prop) (μ : ι → Nat) (i : ι) (st : St) : Prop where
  h : ∃ j π, pre j ∧ μ j < μ i ∧ Wk base st (inv j) π
def lpQ {ι : Type} (base : Nat) (inv : ι → St) (pre : ι → Prop) (μ : ι → Nat) (i : ι) (Q : Exit → St → Prop) : Exit → St → Prop
  | .normal, st => Again base inv pre μ i st
  | e, st => Q e st
theorem Sat.lp0 {x : LCode} {st : St} {Q : Exit → St → Prop} {ι : Type} (inv : ι → List (Nat × V)) (pre : ι → Prop) (μ : ι → Nat) (i0 : ι) (h0 : pre i0) (hw : envIs st.env (inv i0))
    (round : ∀ i, pre i → wp P N base x ⟨inv i, [], base⟩ (lpQ0 inv pre μ i Q)) : SatL P N base (.loop x) st Q :=
  ⟨Sat.loop0 inv pre μ i0 h0 hw fun i hi => (Sat.of (round i hi)).mono fun e st h => by
    cases e with
    | normal => exact h.h
    | _ => exact h⟩
def nmAt (base : Nat) (l : List Nat) (i : Nat) : Nat :=
  match Nat.ble base i with
  | true => l.getD (i - base) i
  | false => i
def distinct : List Nat → Bool
  | [] => true
  | x :: l => !(memN x l) && distinct l
def geAll (base : Nat) : List Nat → Bool
  | [] => true
  | x :: l => Nat.ble base x && geAll base l
def nmOk (base nx0 : Nat) (l : List Nat) : Bool := Nat.ble base nx0 && Nat.ble nx0 (base + l.length) && distinct l && geAll base l
theorem distinct_inj : ∀ {l : List Nat}, distinct l = true → ∀ (i j x : Nat), l[i]? = some x → l[j]? = some x → i = j
  | [], _, i, j, x, h, _ => by simp at h
  | y :: l, hd, i, j, x, hi, hj => by
    simp only [distinct, Bool.and_eq_true, Bool.not_eq_true'] at hd
    have hn : y ∉ l := fun h => by rw [memN_iff.2 h] at hd; cases hd.1
    cases i with
    | zero =>
      cases j with
      | zero => rfl
      | succ j =>
        simp only [List.getElem?_cons_zero, Option.some.injEq] at hi
        subst hi
        exact absurd (List.mem_of_getElem? (by simpa using hj)) hn
    | succ i =>
      cases j with
      | zero =>
        simp only [List.getElem?_cons_zero, Option.some.injEq] at hj
        subst hj
        exact absurd (List.mem_of_getElem? (by simpa using hi)) hn
      | succ j => rw [distinct_inj hd.2 i j x (by simpa using hi) (by simpa using hj)]
theorem geAll_get : ∀ {base : Nat} {l : List Nat}, geAll base l = true → ∀ x ∈ l, base ≤ x
  | _, [], _, x, h => by cases h
  | base, y :: l, hd, x, h => by
    simp only [geAll, Bool.and_eq_true] at hd
    rcases List.mem_cons.1 h with rfl | h
    · exact Nat.le_of_ble_eq_true hd.1
    · exact geAll_get hd.2 x h
theorem nmAt_lo {l : List Nat} {i : Nat} (h : i < base) : nmAt base l i = i := by
  unfold nmAt
  split
  · rename_i hb; have := Nat.le_of_ble_eq_true hb; omega
  · rfl
theorem nmAt_hi {l : List Nat} {i : Nat} (h : base ≤ i) : nmAt base l i = l.getD (i - base) i := by
  unfold nmAt
  split
  · rfl
  · rename_i hb; rw [Nat.ble_eq_true_of_le h] at hb; cases hb
def cLtB (n : Nat) : C → Bool
  | .fn _ ids => ltAll n ids
  | .bp id _ => Nat.blt id n
  | .ep id _ _ _ => Nat.blt id n
  | .ms id _ => Nat.blt id n
  | .yd id => Nat.blt id n
  | .mp id => Nat.blt id n
  | .sb id _ => Nat.blt id n
  | _ => true
  where ltAll (n : Nat) : List Nat → Bool
  | [] => true
  | i :: is => Nat.blt i n && ltAll n is
def csLtB (n : Nat) : List C → Bool
  | [] => true
  | c :: cs => cLtB n c && csLtB n cs
def vLtB (n : Nat) : V → Bool
  | .c x => cLtB n x
  | .agg cs => csLtB n cs
  | .tup _ => false
  | .unk => true
def envLtB (n : Nat) : List (Nat × V) → Bool
  | [] => true
  | (_, v) :: e => vLtB n v && envLtB n e
def eLtB (n : Nat) : Ent → Bool
  | .box cs => csLtB n cs
  | .row .. => true
  | .lp env _ _ _ => envLtB n env
  | .mp .. => true
def stoLtB (n : Nat) : Store → Bool
  | [] => true
  | (i, e) :: σ => Nat.blt i n && eLtB n e && stoLtB n σ
theorem blt_iff {a b : Nat} : Nat.blt a b = true ↔ a < b := by simp [Nat.blt_eq]
theorem ltAll_sound {n : Nat} : ∀ {l : List Nat}, cLtB.ltAll n l = true → ∀ i ∈ l, i < n
  | [], _, i, h => by cases h
  | x :: l, h, i, hi => by
    simp only [cLtB.ltAll, Bool.and_eq_true] at h
    rcases List.mem_cons.1 hi with rfl | hi
    · exact blt_iff.1 h.1
    · exact ltAll_sound h.2 i hi
theorem cLtB_sound {n : Nat} {c : C} (h : cLtB n c = true) : cLt n c := by
  cases c with
  | fn f ids => exact fun i hi => ltAll_sound h i hi
  | bp | ep | ms | yd | mp | sb => exact blt_iff.1 h
  | _ => trivial
theorem csLtB_sound {n : Nat} : ∀ {cs : List C}, csLtB n cs = true → csLt n cs
  | [], _ => trivial
  | c :: cs, h => by simp only [csLtB, Bool.and_eq_true] at h; exact ⟨cLtB_sound h.1, csLtB_sound h.2⟩
theorem vLtB_sound {n : Nat} {v : V} (h : vLtB n v = true) : vLt n v := by
  cases v with
  | c x => exact cLtB_sound h
  | agg cs => exact csLtB_sound h
  | tup => cases h
  | unk => trivial
theorem envLtB_sound {n : Nat} : ∀ {e : List (Nat × V)}, envLtB n e = true → envLt n e
  | [], _ => trivial
  | (_, v) :: e, h => by simp only [envLtB, Bool.and_eq_true] at h; exact ⟨vLtB_sound h.1, envLtB_sound h.2⟩
theorem eLtB_sound {n : Nat} {e : Ent} (h : eLtB n e = true) : eLt n e := by
  cases e with
  | box cs => exact csLtB_sound h
  | row => trivial
  | lp => exact envLtB_sound h
  | mp => trivial
def envEq (π : Nat → Nat) (env : List (Nat × V)) : List (Nat × V) → Prop
  | [] => True
  | (t, v) :: e0 => VEq (lk env t) (rnV π v) ∧ envEq π env e0
def stoEq (π : Nat → Nat) (σ : Store) : Store → Prop
  | [] => True
  | (id, x) :: σ0 => (match get σ (π id) with | some y => EEq y (rnE π x) | none => False) ∧ stoEq π σ σ0
theorem envEq.ok {n : Nat} {π : Nat → Nat} {env : List (Nat × V)} : ∀ {e0 : List (Nat × V)}, envLtB n e0 = true → envEq π env e0 → envOk n π env e0
  | [], _, _ => trivial
  | (t, v) :: e0, hl, h => by
    simp only [envLtB, Bool.and_eq_true] at hl
    exact ⟨⟨h.1, vLtB_sound hl.1⟩, envEq.ok hl.2 h.2⟩
theorem stoEq.ok {n : Nat} {π : Nat → Nat} {σ : Store} : ∀ {σ0 : Store}, stoLtB n σ0 = true → stoEq π σ σ0 → stoOk n π σ σ0
  | [], _, _ => stoOk.nil
  | (id, x) :: σ0, hl, h => by
    simp only [stoLtB, Bool.and_eq_true] at hl
    refine stoOk.cons (blt_iff.1 hl.1.1) (eLtB_sound hl.1.2) ?_ (stoEq.ok hl.2 h.2)
    have := h.1
    split at this
    · rename_i y hy; exact ⟨y, hy, this⟩
    · exact this.elim
structure Is (base : Nat) (st st0 : St) (l : List Nat) : Prop where
  nm : (nmOk base st0.nx l && envLtB st0.nx st0.env && stoLtB st0.nx st0.σ) = true
  env : envEq (nmAt base l) st.env st0.env
  sto : stoEq (nmAt base l) st.σ st0.σ
theorem Is.wk {st st0 : St} {l : List Nat} (h : Is base st st0 l) : Wk base st st0 (nmAt base l) := by
  have h1 := h.nm
  simp only [nmOk, Bool.and_eq_true] at h1
  obtain ⟨⟨⟨⟨⟨a1, a2⟩, a3⟩, a4⟩, a5⟩, a6⟩ := h1
  have a1 := Nat.le_of_ble_eq_true a1
  have a2 := Nat.le_of_ble_eq_true a2
  have hget : ∀ i, base ≤ i → i < st0.nx → ∃ x, l[i - base]? = some x ∧ nmAt base l i = x ∧ base ≤ x := fun i h1 h2 => by
    have hlt : i - base < l.length := by omega
    refine ⟨l[i - base], by simp [hlt], ?_, geAll_get a4 _ (List.getElem_mem hlt)⟩
    rw [nmAt_hi h1, List.getD_eq_getElem?_getD, List.getElem?_eq_getElem hlt]; rfl
  refine ⟨fun i hi => nmAt_lo hi, fun i j hi hj he => ?_, a1, h.env.ok a5, h.sto.ok a6⟩
  rcases Nat.lt_or_ge i base with h1 | h1 <;> rcases Nat.lt_or_ge j base with h2 | h2
  · rw [nmAt_lo h1, nmAt_lo h2] at he; exact he
  · obtain ⟨x, _, hx, hx'⟩ := hget j h2 hj
    rw [nmAt_lo h1, hx] at he; omega
  · obtain ⟨x, _, hx, hx'⟩ := hget i h1 hi
    rw [nmAt_lo h2, hx] at he; omega
  · obtain ⟨x, hx, hx', _⟩ := hget i h1 hi
    obtain ⟨y, hy, hy', _⟩ := hget j h2 hj
    rw [hx', hy'] at he
    subst he
    have := distinct_inj a3 _ _ _ hx hy
    omega
theorem Sat.lp {x : LCode} {st : St} {Q : Exit → St → Prop} {ι : Type} (inv : ι → St) (pre : ι → Prop) (μ : ι → Nat) (i0 : ι) (l : List Nat) (h0 : pre i0) (hw : Is base st (inv i0) l)
    (round : ∀ i, pre i → wp P N base x (inv i) (lpQ base inv pre μ i Q)) : SatL P N base (.loop x) st Q :=
  ⟨Sat.loop inv pre μ i0 _ h0 hw.wk fun i hi => (Sat.of (round i hi)).mono fun e st h => by
    cases e with
    | normal => exact h.h
    | _ => exact h⟩
theorem again {ι : Type} {inv : ι → St} {pre : ι → Prop} {μ : ι → Nat} {i : ι} {st : St} (j : ι) (l : List Nat) (h : pre j) (hm : μ j < μ i) (hw : Is base st (inv j) l) : Again base inv pre μ i st :=
  ⟨j, _, h, hm, hw.wk⟩
theorem again0 {ι : Type} {inv : ι → List (Nat × V)} {pre : ι → Prop} {μ : ι → Nat} {i : ι} {st : St} (j : ι) (h : pre j) (hm : μ j < μ i) (hw : envIs st.env (inv j)) : Again0 inv pre μ i st :=
  ⟨j, h, hm, hw⟩
def yieldQ (id : Nat) (R : Loop → Prop) (next : V → Store → Nat → Prop) : Exit → St → Prop
  | .normal, st => ∃ env2 s2 j2, get st.σ id = some (.lp env2 s2 j2 R) ∧ frS (set st.σ id (.lp env2 .ready none R)) fun σ => next (.c .tru) σ st.nx
  | .ret, st => ∃ env2 s2 j2, get st.σ id = some (.lp env2 s2 j2 R) ∧ frS (set st.σ id (.lp env2 .done (some .ret) R)) fun σ => next (.c .fls) σ st.nx
  | .exit k, st => ∃ env2 s2 j2, get st.σ id = some (.lp env2 s2 j2 R) ∧ frS (set st.σ id (.lp env2 .done (some (.exit k)) R)) fun σ => next (.c .fls) σ st.nx
  | _, _ => False
def bindK : List Nat → List V → List (Nat × V) → (List (Nat × V) → Prop) → Prop
  | p :: ps, v :: vs, env, k => frV v fun v => bindK ps vs ((p, v) :: env) k
  | _, _, env, k => k env
theorem bindK_eq : ∀ (ps : List Nat) (vs : List V) (env : List (Nat × V)) (k : List (Nat × V) → Prop), bindK ps vs env k = k (bindE ps vs env)
  | [], vs, env, k => by simp [bindK, bindE]
  | p :: ps, [], env, k => by simp [bindK, bindE]
  | p :: ps, v :: vs, env, k => by simp only [bindK, frV_eq, bindK_eq ps vs, bindE]
theorem Ops.yd {id N' : Nat} {dst : Option Nat} {fop : Operand} {xs : List Operand} {g : Option (Nat × Bool)} {rest : List LIns} {env : List (Nat × V)} {σ : Store} {nx : Nat} {K : St → Prop} {env0 : List (Nat × V)} {ps : List Nat} {la lb : LCode} (hf : evo env fop = .c (.yd id)) (hg : guardOf env g = .run)
    (hlp : get σ id = some (.lp env0 .ready none (RR P N' ps la lb))) (hlen : Nat.beq ps.length xs.length = true) (hr : (la.ranges || lb.ranges) = false)
    (h : bindK ps (xs.map (evo env)) env0 fun e => Pw.wp P N' nx la ⟨e, σ, nx⟩ fun e st1 => e = .normal ∧ ∃ env1, get st1.σ id = some (.lp env1 .ready none (RR P N' ps la lb)) ∧
      frS (set st1.σ id (.lp env1 .busy none (RR P N' ps la lb))) fun σ' => frNat st1.nx fun nx1 => Pw.wp P N' nx lb ⟨st1.env, σ', nx1⟩ (yieldQ id (RR P N' ps la lb) fun v σ' nx' => frNat nx' fun nx' => putK dst v env fun env' => wpOps P N base rest env' σ' nx' none K)) (hsa : la.strip = la := by exact rfl) (hsb : lb.strip = lb := by exact rfl) :
    OpsL P N base (⟨dst, .call fop xs, g⟩ :: rest) ⟨env, σ, nx⟩ K := by
  rw [bindK_eq] at h
  refine ⟨?_⟩
  simp only [Bool.or_eq_false_iff] at hr
  refine Ops.yield (i := ⟨dst, .call fop xs, g⟩) (st := ⟨env, σ, nx⟩) hg rfl hf hlp (Nat.eq_of_beq_eq_true hlen) hr.1 hr.2 ((hsa ▸ Sat.of h : Sat P N' nx la _ _).mono fun e st1 ⟨he, env1, h1, h2⟩ => ⟨he, env1, h1, ?_⟩)
  rw [frS_eq, frNat_eq] at h2
  refine (hsb ▸ Sat.of h2 : Sat P N' nx lb _ _).mono fun e st2 h3 => ?_
  cases e with
  | normal =>
    obtain ⟨env2, s2, j2, hg2, h4⟩ := h3
    simp only [frNat_eq, putK_eq, frS_eq] at h4
    exact ⟨env2, s2, j2, hg2, Ops.wp h4⟩
  | ret =>
    obtain ⟨env2, s2, j2, hg2, h4⟩ := h3
    simp only [frNat_eq, putK_eq, frS_eq] at h4
    exact ⟨env2, s2, j2, hg2, Ops.wp h4⟩
  | exit k =>
    obtain ⟨env2, s2, j2, hg2, h4⟩ := h3
    simp only [frNat_eq, putK_eq, frS_eq] at h4
    exact ⟨env2, s2, j2, hg2, Ops.wp h4⟩
  | _ => exact h3.elim
end
end Go.Pw
set_option linter.unusedVariables false
namespace Go.Pw
open Go Go.RowKit
abbrev dI (n : Int) : D := .v (.int .i64 n)
abbrev int (n : Int) : C := .d (.v (.int .i64 n))
abbrev r1 (n : Int) : List D := [dI n]
abbrev r2 (p : Int × Int) : List D := [dI p.1, dI p.2]
abbrev r3 (p : Int × Int × Int) : List D := [dI p.1, dI p.2.1, dI p.2.2]
abbrev slv {α : Type} (s : Nat) (row : α → List D) (d : α) (l : List α) : C := .d (.sl s l.length fun i => row (l.getD i d))
abbrev ints (l : List Int) : C := slv 1 r1 0 l
abbrev prs (l : List (Int × Int)) : C := slv 2 r2 (0, 0) l
abbrev trs (l : List (Int × Int × Int)) : C := slv 3 r3 (0, 0, 0) l
abbrev rowv {α : Type} (e : TypeId) (s : Nat) (row : α → List D) (d : α) (l : List α) : Ent := .row e s l.length (fun i => row (l.getD i d)) false
theorem VEq.ms {id n m : Nat} (h : n = m) : VEq (.c (.ms id n)) (.c (.ms id m)) := by subst h; exact .refl _
theorem CEq.ms {id n m : Nat} (h : n = m) : CEq (.ms id n) (.ms id m) := by subst h; exact .refl _
theorem CEq.int {k : IntKind} {a b : Int} (h : a = b) : CEq (.d (.v (.int k a))) (.d (.v (.int k b))) := by subst h; exact .refl _
theorem CEq.sl {s n m : Nat} {f g : Nat → List D} (hn : n = m) (h : ∀ i, i < n → f i = g i) : CEq (.d (.sl s n f)) (.d (.sl s m g)) := by subst hn; exact .d _ _ (.sl _ _ _ _ h)
theorem CEq.nil {s : Nat} {g : Nat → List D} : CEq (.d (.v (.slice none 0 0))) (.d (.sl s 0 g)) := .d _ _ (.nil s g)
theorem VEq.nil {s : Nat} {g : Nat → List D} : VEq (.c (.d (.v (.slice none 0 0)))) (.c (.d (.sl s 0 g))) := .c _ _ .nil
theorem VEq.sll {α : Type} {s : Nat} {row : α → List D} {d : α} {l m : List α} (h : l = m) : VEq (.c (slv s row d l)) (.c (slv s row d m)) := by subst h; exact .refl _
theorem CEq.sll {α : Type} {s : Nat} {row : α → List D} {d : α} {l m : List α} (h : l = m) : CEq (slv s row d l) (slv s row d m) := by subst h; exact .refl _
def CEqs : List C → List C → Prop
  | [], [] => True
  | x :: xs, y :: ys => CEq x y ∧ CEqs xs ys
  | _, _ => False
theorem CEqs.length : ∀ {xs ys : List C}, CEqs xs ys → xs.length = ys.length
  | [], [], _ => rfl
  | x :: xs, y :: ys, h => by simp [CEqs.length h.2]
  | [], _ :: _, h => h.elim
  | _ :: _, [], h => h.elim
theorem CEqs.get : ∀ {xs ys : List C}, CEqs xs ys → ∀ (i : Nat) x y, xs[i]? = some x → ys[i]? = some y → CEq x y
  | [], [], _, i, x, y, h, _ => by simp at h
  | a :: xs, b :: ys, h, i, x, y, hx, hy => by
    cases i with
    | zero => simp at hx hy; subst hx; subst hy; exact h.1
    | succ i => exact CEqs.get h.2 i x y (by simpa using hx) (by simpa using hy)
  | [], _ :: _, h, _, _, _, _, _ => h.elim
  | _ :: _, [], h, _, _, _, _, _ => h.elim
theorem EEq.boxs {xs ys : List C} (h : CEqs xs ys) : EEq (.box xs) (.box ys) := .box xs ys h.length h.get
theorem VEq.aggs {xs ys : List C} (h : CEqs xs ys) : VEq (.agg xs) (.agg ys) := .agg xs ys h.length h.get
theorem EEq.same (x : Ent) : EEq x x := by
  cases x with
  | box xs => exact .box _ _ rfl fun i x y hx hy => by rw [hx] at hy; cases hy; exact .refl _
  | row => exact .row _ _ _ _ _ _ fun _ _ => rfl
  | lp => exact .lp _ _ _ _ _ fun _ => .refl _
  | mp m es => exact .mp m es
theorem EEq.rowl {e : TypeId} {s n m : Nat} {f g : Nat → List D} {fz : Bool} (hn : n = m) (h : ∀ i, i < n → f i = g i) : EEq (.row e s n f fz) (.row e s m g fz) := by subst hn; exact .row _ _ _ _ _ _ h
theorem row_app {α : Type} {row : α → List D} {d : α} {l : List α} {x : α} {r : List D} (h : r = row x) (i : Nat) (hi : i < l.length + 1) : (if i < l.length then row (l.getD i d) else ([r].getD (i - l.length) [])) = row ((l ++ [x]).getD i d) := by
  subst h
  by_cases hlt : i < l.length
  · rw [if_pos hlt, List.getD_eq_getElem?_getD, List.getD_eq_getElem?_getD, List.getElem?_append_left hlt]
  · have : i = l.length := by omega
    subst this
    simp
theorem EEq.app {α : Type} {e : TypeId} {s : Nat} {row : α → List D} {d : α} {l l' : List α} (x : α) {r : List D} (h : r = row x) (hl : l' = l ++ [x]) : EEq (.row e s (l.length + 1) (fun i => if i < l.length then row (l.getD i d) else ([r].getD (i - l.length) [])) false) (rowv e s row d l') := by
  subst hl
  exact EEq.rowl (by simp) fun i hi => row_app h i hi
theorem EEq.one {α : Type} {e : TypeId} {s : Nat} {row : α → List D} {d : α} {l' : List α} (x : α) {r : List D} (h : r = row x) (hl : l' = [x]) : EEq (.row e s 1 (fun i => [r].getD i []) false) (rowv e s row d l') := by
  subst hl
  subst h
  exact EEq.rowl rfl fun i hi => by
    have : i = 0 := by omega
    subst this; rfl
theorem EEq.app1 {e : TypeId} {l l' : List Int} {a : Int} (hl : l' = l ++ [a]) : EEq (.row e 1 (l.length + 1) (fun i => if i < l.length then r1 (l.getD i 0) else ([[dI a]].getD (i - l.length) [])) false) (rowv e 1 r1 0 l') := EEq.app a rfl hl
theorem EEq.app2 {e : TypeId} {l l' : List (Int × Int)} {a b : Int} (hl : l' = l ++ [(a, b)]) : EEq (.row e 2 (l.length + 1) (fun i => if i < l.length then r2 (l.getD i (0, 0)) else ([[dI a, dI b]].getD (i - l.length) [])) false) (rowv e 2 r2 (0, 0) l') := EEq.app (a, b) rfl hl
theorem EEq.app3 {e : TypeId} {l l' : List (Int × Int × Int)} {a b c : Int} (hl : l' = l ++ [(a, b, c)]) : EEq (.row e 3 (l.length + 1) (fun i => if i < l.length then r3 (l.getD i (0, 0, 0)) else ([[dI a, dI b, dI c]].getD (i - l.length) [])) false) (rowv e 3 r3 (0, 0, 0) l') := EEq.app (a, b, c) rfl hl
theorem CEq.li_1 {a0 : Int} : CEq (.d (.sl 1 [[dI a0]].length fun i => [[dI a0]].getD i [])) (ints [a0]) := CEq.sl rfl (fun i hi => by
  rcases i with _ | i
  · rfl
  exact absurd hi (by simp only [List.length_cons, List.length_nil]; omega))
theorem VEq.li_1 {a0 : Int} : VEq (.c (.d (.sl 1 [[dI a0]].length fun i => [[dI a0]].getD i []))) (.c (ints [a0])) := .c _ _ CEq.li_1
theorem CEq.li_2 {a0 a1 : Int} : CEq (.d (.sl 1 [[dI a0], [dI a1]].length fun i => [[dI a0], [dI a1]].getD i [])) (ints [a0, a1]) := CEq.sl rfl (fun i hi => by
  rcases i with _ | i
  · rfl
  rcases i with _ | i
  · rfl
  exact absurd hi (by simp only [List.length_cons, List.length_nil]; omega))
theorem VEq.li_2 {a0 a1 : Int} : VEq (.c (.d (.sl 1 [[dI a0], [dI a1]].length fun i => [[dI a0], [dI a1]].getD i []))) (.c (ints [a0, a1])) := .c _ _ CEq.li_2
theorem CEq.li_3 {a0 a1 a2 : Int} : CEq (.d (.sl 1 [[dI a0], [dI a1], [dI a2]].length fun i => [[dI a0], [dI a1], [dI a2]].getD i [])) (ints [a0, a1, a2]) := CEq.sl rfl (fun i hi => by
  rcases i with _ | i
  · rfl
  rcases i with _ | i
  · rfl
  rcases i with _ | i
  · rfl
  exact absurd hi (by simp only [List.length_cons, List.length_nil]; omega))
theorem VEq.li_3 {a0 a1 a2 : Int} : VEq (.c (.d (.sl 1 [[dI a0], [dI a1], [dI a2]].length fun i => [[dI a0], [dI a1], [dI a2]].getD i []))) (.c (ints [a0, a1, a2])) := .c _ _ CEq.li_3
theorem CEq.li_4 {a0 a1 a2 a3 : Int} : CEq (.d (.sl 1 [[dI a0], [dI a1], [dI a2], [dI a3]].length fun i => [[dI a0], [dI a1], [dI a2], [dI a3]].getD i [])) (ints [a0, a1, a2, a3]) := CEq.sl rfl (fun i hi => by
  rcases i with _ | i
  · rfl
  rcases i with _ | i
  · rfl
  rcases i with _ | i
  · rfl
  rcases i with _ | i
  · rfl
  exact absurd hi (by simp only [List.length_cons, List.length_nil]; omega))
theorem VEq.li_4 {a0 a1 a2 a3 : Int} : VEq (.c (.d (.sl 1 [[dI a0], [dI a1], [dI a2], [dI a3]].length fun i => [[dI a0], [dI a1], [dI a2], [dI a3]].getD i []))) (.c (ints [a0, a1, a2, a3])) := .c _ _ CEq.li_4
theorem CEq.lp_1 {a0 b0 : Int} : CEq (.d (.sl 2 [[dI a0, dI b0]].length fun i => [[dI a0, dI b0]].getD i [])) (prs [(a0, b0)]) := CEq.sl rfl (fun i hi => by
  rcases i with _ | i
  · rfl
  exact absurd hi (by simp only [List.length_cons, List.length_nil]; omega))
theorem VEq.lp_1 {a0 b0 : Int} : VEq (.c (.d (.sl 2 [[dI a0, dI b0]].length fun i => [[dI a0, dI b0]].getD i []))) (.c (prs [(a0, b0)])) := .c _ _ CEq.lp_1
theorem CEq.lp_2 {a0 b0 a1 b1 : Int} : CEq (.d (.sl 2 [[dI a0, dI b0], [dI a1, dI b1]].length fun i => [[dI a0, dI b0], [dI a1, dI b1]].getD i [])) (prs [(a0, b0), (a1, b1)]) := CEq.sl rfl (fun i hi => by
  rcases i with _ | i
  · rfl
  rcases i with _ | i
  · rfl
  exact absurd hi (by simp only [List.length_cons, List.length_nil]; omega))
theorem VEq.lp_2 {a0 b0 a1 b1 : Int} : VEq (.c (.d (.sl 2 [[dI a0, dI b0], [dI a1, dI b1]].length fun i => [[dI a0, dI b0], [dI a1, dI b1]].getD i []))) (.c (prs [(a0, b0), (a1, b1)])) := .c _ _ CEq.lp_2
theorem CEq.lp_3 {a0 b0 a1 b1 a2 b2 : Int} : CEq (.d (.sl 2 [[dI a0, dI b0], [dI a1, dI b1], [dI a2, dI b2]].length fun i => [[dI a0, dI b0], [dI a1, dI b1], [dI a2, dI b2]].getD i [])) (prs [(a0, b0), (a1, b1), (a2, b2)]) := CEq.sl rfl (fun i hi => by
  rcases i with _ | i
  · rfl
  rcases i with _ | i
  · rfl
  rcases i with _ | i
  · rfl
  exact absurd hi (by simp only [List.length_cons, List.length_nil]; omega))
theorem VEq.lp_3 {a0 b0 a1 b1 a2 b2 : Int} : VEq (.c (.d (.sl 2 [[dI a0, dI b0], [dI a1, dI b1], [dI a2, dI b2]].length fun i => [[dI a0, dI b0], [dI a1, dI b1], [dI a2, dI b2]].getD i []))) (.c (prs [(a0, b0), (a1, b1), (a2, b2)])) := .c _ _ CEq.lp_3
theorem CEq.lp_4 {a0 b0 a1 b1 a2 b2 a3 b3 : Int} : CEq (.d (.sl 2 [[dI a0, dI b0], [dI a1, dI b1], [dI a2, dI b2], [dI a3, dI b3]].length fun i => [[dI a0, dI b0], [dI a1, dI b1], [dI a2, dI b2], [dI a3, dI b3]].getD i [])) (prs [(a0, b0), (a1, b1), (a2, b2), (a3, b3)]) := CEq.sl rfl (fun i hi => by
  rcases i with _ | i
  · rfl
  rcases i with _ | i
  · rfl
  rcases i with _ | i
  · rfl
  rcases i with _ | i
  · rfl
  exact absurd hi (by simp only [List.length_cons, List.length_nil]; omega))
theorem VEq.lp_4 {a0 b0 a1 b1 a2 b2 a3 b3 : Int} : VEq (.c (.d (.sl 2 [[dI a0, dI b0], [dI a1, dI b1], [dI a2, dI b2], [dI a3, dI b3]].length fun i => [[dI a0, dI b0], [dI a1, dI b1], [dI a2, dI b2], [dI a3, dI b3]].getD i []))) (.c (prs [(a0, b0), (a1, b1), (a2, b2), (a3, b3)])) := .c _ _ CEq.lp_4
theorem CEq.lt_1 {a0 b0 c0 : Int} : CEq (.d (.sl 3 [[dI a0, dI b0, dI c0]].length fun i => [[dI a0, dI b0, dI c0]].getD i [])) (trs [(a0, b0, c0)]) := CEq.sl rfl (fun i hi => by
  rcases i with _ | i
  · rfl
  exact absurd hi (by simp only [List.length_cons, List.length_nil]; omega))
theorem VEq.lt_1 {a0 b0 c0 : Int} : VEq (.c (.d (.sl 3 [[dI a0, dI b0, dI c0]].length fun i => [[dI a0, dI b0, dI c0]].getD i []))) (.c (trs [(a0, b0, c0)])) := .c _ _ CEq.lt_1
theorem CEq.lt_2 {a0 b0 c0 a1 b1 c1 : Int} : CEq (.d (.sl 3 [[dI a0, dI b0, dI c0], [dI a1, dI b1, dI c1]].length fun i => [[dI a0, dI b0, dI c0], [dI a1, dI b1, dI c1]].getD i [])) (trs [(a0, b0, c0), (a1, b1, c1)]) := CEq.sl rfl (fun i hi => by
  rcases i with _ | i
  · rfl
  rcases i with _ | i
  · rfl
  exact absurd hi (by simp only [List.length_cons, List.length_nil]; omega))
theorem VEq.lt_2 {a0 b0 c0 a1 b1 c1 : Int} : VEq (.c (.d (.sl 3 [[dI a0, dI b0, dI c0], [dI a1, dI b1, dI c1]].length fun i => [[dI a0, dI b0, dI c0], [dI a1, dI b1, dI c1]].getD i []))) (.c (trs [(a0, b0, c0), (a1, b1, c1)])) := .c _ _ CEq.lt_2
theorem CEq.lt_3 {a0 b0 c0 a1 b1 c1 a2 b2 c2 : Int} : CEq (.d (.sl 3 [[dI a0, dI b0, dI c0], [dI a1, dI b1, dI c1], [dI a2, dI b2, dI c2]].length fun i => [[dI a0, dI b0, dI c0], [dI a1, dI b1, dI c1], [dI a2, dI b2, dI c2]].getD i [])) (trs [(a0, b0, c0), (a1, b1, c1), (a2, b2, c2)]) := CEq.sl rfl (fun i hi => by
  rcases i with _ | i
  · rfl
  rcases i with _ | i
  · rfl
  rcases i with _ | i
  · rfl
  exact absurd hi (by simp only [List.length_cons, List.length_nil]; omega))
theorem VEq.lt_3 {a0 b0 c0 a1 b1 c1 a2 b2 c2 : Int} : VEq (.c (.d (.sl 3 [[dI a0, dI b0, dI c0], [dI a1, dI b1, dI c1], [dI a2, dI b2, dI c2]].length fun i => [[dI a0, dI b0, dI c0], [dI a1, dI b1, dI c1], [dI a2, dI b2, dI c2]].getD i []))) (.c (trs [(a0, b0, c0), (a1, b1, c1), (a2, b2, c2)])) := .c _ _ CEq.lt_3
section
variable {P : Program} {N base : Nat}
def keepK : List Nat → List (Nat × V) → (List (Nat × V) → Prop) → Prop
  | [], _, k => k []
  | t :: ts, env, k => frV (lk env t) fun v => keepK ts env fun e => k ((t, v) :: e)
def keepE (env : List (Nat × V)) : List Nat → List (Nat × V)
  | [] => []
  | t :: ts => (t, lk env t) :: keepE env ts
theorem keepK_eq : ∀ (ts : List Nat) (env : List (Nat × V)) (k : List (Nat × V) → Prop), keepK ts env k = k (keepE env ts)
  | [], env, k => rfl
  | t :: ts, env, k => by simp only [keepK, frV_eq, keepK_eq ts, keepE]
theorem lk_keepE {env : List (Nat × V)} {t : Nat} : ∀ (ts : List Nat), RI (lk env t) (lk (keepE env ts) t)
  | [] => fun _ _ _ _ => .unk _
  | x :: ts => by
    rw [keepE, lk_cons]
    split
    · rename_i h; subst h; exact RI.refl _
    · exact lk_keepE ts
theorem Mv.keep {env : List (Nat × V)} {σ : Store} {nx : Nat} (ts : List Nat) : Mv base ⟨env, σ, nx⟩ ⟨keepE env ts, σ, nx⟩ := Mv.env fun t => lk_keepE ts
theorem Sat.keep {x : LCode} {env : List (Nat × V)} {σ : Store} {nx : Nat} {Q : Exit → St → Prop} (ts : List Nat) (h : keepK ts env fun env' => SatL P N base x ⟨env', σ, nx⟩ Q) : SatL P N base x ⟨env, σ, nx⟩ Q := by
  rw [keepK_eq] at h
  exact ⟨Sat.from (Mv.keep ts) h.h⟩
theorem RetQ.of {nx : Nat} {rl : List RL} {vs vs0 : List V} {σ' : Store} {nx' : Nat} {e : Exit} {env : List (Nat × V)} {σ : Store} {nx1 : Nat} (he : e = .normal ∨ e = .ret) (hres : resAll env σ rl = some vs0) (hl : Nat.beq vs0.length vs.length = true) (h : Mv nx ⟨argEnv 0 vs0, σ, nx1⟩ ⟨argEnv 0 vs, σ', nx'⟩) : RetQ nx rl vs σ' nx' e ⟨env, σ, nx1⟩ :=
  ⟨he, vs0, hres, Nat.eq_of_beq_eq_true hl, h⟩
theorem Mv.plain {nx nx1 nx' : Nat} {env : List (Nat × V)} {σ : Store} {vs : List V} (hle : Nat.ble nx nx' = true) (h : envIs env (argEnv 0 vs)) : Mv nx ⟨env, σ, nx1⟩ ⟨argEnv 0 vs, [], nx'⟩ :=
  Mv.weaken (Wk.plain (Nat.le_of_ble_eq_true hle) h)
theorem OpsL.frz {ops : List LIns} {K : St → Prop} {env : List (Nat × V)} {σ : Store} {nx : Nat} (t id : Nat) {n : Nat} {e : TypeId} {s m : Nat} {f : Nat → List D} {fz : Bool} (h : lk env t = .c (.ms id n)) (hg : get σ id = some (.row e s m f fz)) (hn : n ≤ m)
    (k : frS (set σ id (.row e s m f true)) fun σ' => OpsL P N base ops ⟨(t, .c (.d (.sl s n f))) :: env, σ', nx⟩ K) : OpsL P N base ops ⟨env, σ, nx⟩ K := by
  rw [frS_eq] at k
  exact ⟨Ops.from (Mv.freeze t id h hg hn) k.h⟩
theorem MvQ.frz {Q : Exit → St → Prop} {x : Exit} {env : List (Nat × V)} {σ : Store} {nx : Nat} (t id : Nat) {n : Nat} {e : TypeId} {s m : Nat} {f : Nat → List D} {fz : Bool} (h : lk env t = .c (.ms id n)) (hg : get σ id = some (.row e s m f fz)) (hn : n ≤ m)
    (k : frS (set σ id (.row e s m f true)) fun σ' => MvQ base Q x ⟨(t, .c (.d (.sl s n f))) :: env, σ', nx⟩) : MvQ base Q x ⟨env, σ, nx⟩ := by
  rw [frS_eq] at k
  exact MvQ.from (Mv.freeze t id h hg hn) k
theorem Sat.nilS {x : LCode} {env : List (Nat × V)} {σ : Store} {nx : Nat} {Q : Exit → St → Prop} (t : Nat) (e : TypeId) (s : Nat) (f : Nat → List D) (h : lk env t = .c (.d (.v (.slice none 0 0))))
    (k : frNat (nx + 1) fun nx' => SatL P N base x ⟨(t, .c (.ms nx 0)) :: env, (nx, .row e s 0 f false) :: σ, nx'⟩ Q) : SatL P N base x ⟨env, σ, nx⟩ Q := by
  rw [frNat_eq] at k
  exact ⟨Sat.from (Mv.nilms t e s f h) k.h⟩
end
end Go.Pw
set_option linter.unusedVariables false
set_option linter.unusedSectionVars false
namespace Go.Pw
open Go Go.RowKit Go.ChangeShapes Go.WideShapes
inductive Sh
  | int (k : IntKind)
  | bool
  | str
  | sl (row : List Sh)
def shFields (cells : TypeId → Nat) (sh : TypeId → Option (List Sh)) : Nat → List Field → Option (List Sh)
  | _, [] => some []
  | o, f :: fs => if f.offset = o then (sh f.type).bind fun a => if a.length = cells f.type then (shFields cells sh (o + cells f.type) fs).map fun b => a ++ b else none else none
def shOf (P : Program) : Nat → TypeId → Option (List Sh)
  | 0, _ => none
  | m + 1, t => match P.underlying t with
    | some (.int k) => some [.int k]
    | some .bool => some [.bool]
    | some .string => some [.str]
    | some (.struct fs) => (shFields P.cellsOf (shOf P m) 0 fs.toList).bind fun l => if l.length = P.cellsOf t then some l else none
    | some (.array n e) => (shOf P m e).bind fun a => if a.length = P.cellsOf e ∧ n * P.cellsOf e = P.cellsOf t then some (List.replicate n a).flatten else none
    | some (.slice e) => (shOf P m e).bind fun a => if a.length = P.cellsOf e ∧ a.length ≠ 0 then some [.sl a] else none
    | _ => none
mutual
def OkD : Sh → D → Prop
  | .int k, d => ∃ n, d = .v (.int k n) ∧ k.has n = true
  | .bool, d => ∃ b, d = .v (.bool b)
  | .str, d => ∃ s : ByteArray, d = .v (.string s) ∧ s.size ≤ maxLen
  | .sl row, d => ∃ n f, d = .sl row.length n f ∧ n ≤ maxLen ∧ ∀ i, i < n → OkDs row (f i)
def OkDs : List Sh → List D → Prop
  | [], [] => True
  | s :: ss, d :: ds => OkD s d ∧ OkDs ss ds
  | _, _ => False
end
theorem OkDs.length : ∀ {ss : List Sh} {ds : List D}, OkDs ss ds → ds.length = ss.length
  | [], [], _ => rfl
  | s :: ss, d :: ds, h => by unfold OkDs at h; simp [OkDs.length h.2]
  | [], _ :: _, h => by unfold OkDs at h; exact h.elim
  | _ :: _, [], h => by unfold OkDs at h; exact h.elim
theorem OkDs.app : ∀ {ss tt : List Sh} {ds es : List D}, OkDs ss ds → OkDs tt es → OkDs (ss ++ tt) (ds ++ es)
  | [], _, [], _, _, h => h
  | s :: ss, tt, d :: ds, es, h, h' => by
    unfold OkDs at h
    show OkDs (s :: (ss ++ tt)) (d :: (ds ++ es))
    unfold OkDs
    exact ⟨h.1, OkDs.app h.2 h'⟩
  | [], _, _ :: _, _, h, _ => by unfold OkDs at h; exact h.elim
  | _ :: _, _, [], _, h, _ => by unfold OkDs at h; exact h.elim
def Reps (I : Nat → Prop) (w : World) (ds : List D) (cs : List Value) : Prop := cs.length = ds.length ∧ ∀ (i : Nat) d u, ds[i]? = some d → cs[i]? = some u → RepD I w d u
theorem Reps.nil {I : Nat → Prop} {w : World} : Reps I w [] [] := ⟨rfl, fun i d u h => by simp at h⟩
theorem Reps.one {I : Nat → Prop} {w : World} {d : D} {u : Value} (h : RepD I w d u) : Reps I w [d] [u] := ⟨rfl, fun i d' u' hd hu => by
  cases i with
  | zero => simp at hd hu; subst hd; subst hu; exact h
  | succ i => simp at hd⟩
theorem Reps.app {I : Nat → Prop} {w : World} {ds es : List D} {cs us : List Value} (h : Reps I w ds cs) (h' : Reps I w es us) : Reps I w (ds ++ es) (cs ++ us) := by
  refine ⟨by simp [h.1, h'.1], fun i d u hd hu => ?_⟩
  rcases Nat.lt_or_ge i ds.length with hi | hi
  · rw [List.getElem?_append_left hi] at hd
    rw [List.getElem?_append_left (by rw [h.1]; exact hi)] at hu
    exact h.2 i d u hd hu
  · rw [List.getElem?_append_right hi] at hd
    rw [List.getElem?_append_right (by rw [h.1]; exact hi), h.1] at hu
    exact h'.2 _ d u hd hu
section
variable {H : Type} {enc : TypeId × Value → H} {P : Program} {w : World} {base : Nat} {spare : Nat → Bool} {held : Bool}
theorem trod_array' {t e : TypeId} {n fuel : Nat} {cs : List Value} {x : DataW H × List MemPlace} (ht : P.underlying t = some (.array n e)) (h : DataW.trod enc P w base spare held fuel t cs = some x) :
    ∃ m, cs.length = P.cellsOf t ∧ ∀ i, i < n → ∃ y, DataW.trod enc P w base spare held m e ((cs.drop (i * P.cellsOf e)).take (P.cellsOf e)) = some y := by
  cases fuel with
  | zero => simp [DataW.trod] at h
  | succ m =>
    unfold DataW.trod at h
    rw [ht] at h
    simp only at h
    split at h
    · rename_i hl
      rw [Option.map_eq_some_iff] at h
      obtain ⟨xs, h1, _⟩ := h
      refine ⟨m, hl, fun i hi => ?_⟩
      have := mapM_some_get h1 i i (by simp [hi])
      have hlen := mapM_some_length h1
      rw [List.getElem?_eq_getElem (by rw [hlen]; simpa using hi)] at this
      exact ⟨_, this⟩
    · cases h
theorem trod_fields {m : Nat} (ih : ∀ (t : TypeId) (sh : List Sh) (fuel : Nat) (cs : List Value) (x : DataW H × List MemPlace), shOf P m t = some sh → DataW.trod enc P w base spare held fuel t cs = some x → ∃ ds, OkDs sh ds ∧ Reps (fun b => b < w.heap.size) w ds cs) {fuel : Nat} :
    ∀ (fs : List Field) (o : Nat) (sh : List Sh) (cs : List Value), shFields P.cellsOf (shOf P m) o fs = some sh → (∀ f ∈ fs, ∃ y, DataW.trod enc P w base spare held fuel f.type ((cs.drop f.offset).take (P.cellsOf f.type)) = some y) →
      o + sh.length = cs.length → ∃ ds, OkDs sh ds ∧ Reps (fun b => b < w.heap.size) w ds (cs.drop o)
  | [], o, sh, cs, h, _, hl => by
    simp only [shFields, Option.some.injEq] at h
    subst h
    refine ⟨[], by unfold OkDs; trivial, ?_⟩
    rw [List.drop_of_length_le (by simp at hl; omega)]
    exact Reps.nil
  | f :: fs, o, sh, cs, h, hf, hl => by
    simp only [shFields] at h
    split at h
    · rename_i ho
      rw [Option.bind_eq_some_iff] at h
      obtain ⟨a, ha, h⟩ := h
      split at h
      · rename_i hal
        rw [Option.map_eq_some_iff] at h
        obtain ⟨b, hb, rfl⟩ := h
        obtain ⟨y, hy⟩ := hf f (by simp)
        rw [ho] at hy
        obtain ⟨ds, h1, h2⟩ := ih f.type a fuel _ y ha hy
        rw [List.length_append] at hl
        obtain ⟨es, h3, h4⟩ := trod_fields ih fs (o + P.cellsOf f.type) b cs hb (fun g hg => hf g (by simp [hg])) (by omega)
        refine ⟨ds ++ es, h1.app h3, ?_⟩
        have := h2.app h4
        rwa [← List.drop_drop, List.take_append_drop] at this
      · cases h
    · cases h
theorem reps_array {I : Nat → Prop} {c : Nat} {sh : List Sh} : ∀ (n : Nat) (cs : List Value), cs.length = n * c → (∀ i, i < n → ∃ ds, OkDs sh ds ∧ Reps I w ds ((cs.drop (i * c)).take c)) → ∃ ds, OkDs (List.replicate n sh).flatten ds ∧ Reps I w ds cs
  | 0, cs, hl, _ => by
    have : cs = [] := List.length_eq_zero_iff.1 (by simpa using hl)
    subst this
    exact ⟨[], by simp only [List.replicate, List.flatten]; unfold OkDs; trivial, Reps.nil⟩
  | n + 1, cs, hl, h => by
    obtain ⟨ds, h1, h2⟩ := h 0 (Nat.succ_pos _)
    obtain ⟨es, h3, h4⟩ := reps_array (c := c) (sh := sh) n (cs.drop c) (by rw [List.length_drop, hl, Nat.succ_mul]; omega) (fun i hi => by
      obtain ⟨es, h3, h4⟩ := h (i + 1) (by omega)
      refine ⟨es, h3, ?_⟩
      rwa [List.drop_drop, show c + i * c = (i + 1) * c by rw [Nat.succ_mul]; omega])
    refine ⟨ds ++ es, ?_, ?_⟩
    · rw [List.replicate_succ, List.flatten_cons]; exact h1.app h3
    · simp only [Nat.zero_mul, List.drop_zero] at h2
      have := h2.app h4
      rwa [List.take_append_drop] at this
theorem has_of_wf {k : IntKind} {n : Int} (h : (Lit.int k n).wf = true) : k.has n = true := by
  simpa [Lit.wf, IntKind.has] using h
theorem trod_reps : ∀ (m : Nat) (t : TypeId) (sh : List Sh) (fuel : Nat) (cs : List Value) (x : DataW H × List MemPlace), shOf P m t = some sh → DataW.trod enc P w base spare held fuel t cs = some x →
    ∃ ds, OkDs sh ds ∧ Reps (fun b => b < w.heap.size) w ds cs := by
  intro m
  induction m with
  | zero => intro t sh fuel cs x h; simp [shOf] at h
  | succ m ih =>
    intro t sh fuel cs x h hx
    unfold shOf at h
    split at h
    · rename_i k hu
      cases h
      obtain ⟨n, rfl, _, hw⟩ := DataW.trod_int hu hx
      exact ⟨[.v (.int k n)], by unfold OkDs; exact ⟨by unfold OkD; exact ⟨n, rfl, has_of_wf hw⟩, by unfold OkDs; trivial⟩, Reps.one (.v _ rfl)⟩
    · rename_i hu
      cases h
      obtain ⟨b, rfl, _⟩ := DataW.trod_bool hu hx
      exact ⟨[.v (.bool b)], by unfold OkDs; exact ⟨by unfold OkD; exact ⟨b, rfl⟩, by unfold OkDs; trivial⟩, Reps.one (.v _ rfl)⟩
    · rename_i hu
      cases h
      obtain ⟨s, rfl, _, hs⟩ := DataW.trod_string hu hx
      exact ⟨[.v (.string s)], by unfold OkDs; exact ⟨by unfold OkD; exact ⟨s, rfl, hs⟩, by unfold OkDs; trivial⟩, Reps.one (.v _ rfl)⟩
    · rename_i fs hu
      rw [Option.bind_eq_some_iff] at h
      obtain ⟨l, hl, h⟩ := h
      split at h
      · rename_i hc
        cases h
        obtain ⟨xs, n, rfl, _, hlen, hxl, hfs⟩ := DataW.trod_struct hu hx
        obtain ⟨ds, h1, h2⟩ := trod_fields (fuel := n) ih fs.toList 0 sh cs hl (fun f hf => by
          obtain ⟨i, hi, rfl⟩ := List.getElem_of_mem hf
          have h3 := hfs i fs.toList[i] (by simp)
          rw [List.getElem?_eq_getElem (by rw [hxl]; simpa using hi)] at h3
          exact ⟨_, h3⟩) (by omega)
        exact ⟨ds, h1, by simpa using h2⟩
      · cases h
    · rename_i n e hu
      rw [Option.bind_eq_some_iff] at h
      obtain ⟨a, ha, h⟩ := h
      split at h
      · rename_i hc
        cases h
        obtain ⟨m', hlen, hy⟩ := trod_array' hu hx
        exact reps_array n cs (by rw [hlen, hc.2]) (fun i hi => by
          obtain ⟨y, hy⟩ := hy i hi
          exact ih e a m' _ y ha hy)
      · cases h
    · rename_i e hu
      rw [Option.bind_eq_some_iff] at h
      obtain ⟨a, ha, h⟩ := h
      split at h
      · rename_i hca
        obtain ⟨hc, hca⟩ := hca
        cases h
        rcases Deep.open_slice hu hx with ⟨rfl, _⟩ | ⟨ad, len, cap, mm, n, D0, Pl, rfl, _, hlc, hcm, hmm, _, hel⟩
        · exact ⟨[.sl a.length 0 fun _ => []], by unfold OkDs; exact ⟨by unfold OkD; exact ⟨0, _, rfl, Nat.zero_le _, fun i hi => absurd hi (Nat.not_lt_zero _)⟩, by unfold OkDs; trivial⟩, Reps.one (.slE _ _ _ _)⟩
        · have hle : len ≤ mm := by rw [hmm]; split <;> omega
          have hall : ∀ i, i < len → ∃ p : List D × List Value, OkDs a p.1 ∧ Reps (fun b => b < w.heap.size) w p.1 p.2 ∧ w.cells? base (ad.add (i * P.cellsOf e)) (P.cellsOf e) = some p.2 := fun i hi => by
            obtain ⟨cs', h1, h2⟩ := hel i (by omega)
            obtain ⟨ds, h3, h4⟩ := ih e a n cs' _ ha h2
            exact ⟨(ds, cs'), h3, h4, h1⟩
          obtain ⟨f, hf⟩ := Deep.choose_lt hall
          refine ⟨[.sl a.length len fun i => (f i).1], by unfold OkDs; exact ⟨by unfold OkD; exact ⟨len, _, rfl, by omega, fun i hi => (hf i hi).1⟩, by unfold OkDs; trivial⟩, Reps.one ?_⟩
          by_cases h0 : len = 0
          · subst h0; exact .slE _ _ _ _
          refine .sl _ _ _ _ _ (fun i j => ((f i).2[j]?).getD (.bool false)) hlc ?_ (fun i hi => (hf i hi).1.length) (fun i j d hi hd => ?_) (fun i j d hi hd => ?_)
          · obtain ⟨_, h2, h3⟩ := hf 0 (by omega)
            have := World.cells?_block h3 (by omega)
            unfold Addr.add at this
            simpa using this
          · obtain ⟨h1, h2, h3⟩ := hf i hi
            obtain ⟨_, h4, h5⟩ := World.cells?_some h3
            have hj : j < (f i).1.length := (List.getElem?_eq_some_iff.1 hd).1
            rw [h2.1.symm, h4] at hj
            have h6 := h5 j hj
            rw [List.getElem?_eq_getElem (by omega)] at h6
            rw [Deep.add_add] at h6
            rw [hc, h6, List.getElem?_eq_getElem (by omega)]
            rfl
          · obtain ⟨h1, h2, h3⟩ := hf i hi
            have hj : j < (f i).1.length := (List.getElem?_eq_some_iff.1 hd).1
            rw [← h2.1] at hj
            rw [List.getElem?_eq_getElem hj]
            exact h2.2 j d _ hd (List.getElem?_eq_getElem hj)
      · cases h
    · cases h
def shAll (P : Program) : List TypeId → Option (List (Bool × List Sh))
  | [] => some []
  | t :: ts => (shOf P 20 t).bind fun s => if P.readableRec t = true ∧ t < P.types.size then (shAll P ts).map fun r => ((match P.underlying t with | some (.struct _) | some (.array _ _) => true | _ => false), s) :: r else none
def ArgOk : List (Bool × List Sh) → List V → Prop
  | [], [] => True
  | (b, sh) :: r, v :: vs => (∃ ds, OkDs sh ds ∧ (b = true ∧ v = .agg (ds.map .d) ∨ b = false ∧ ∃ d, ds = [d] ∧ v = .c (.d d))) ∧ ArgOk r vs
  | _, _ => False
theorem okWide_agg {t : TypeId} {v : Value} (h : Value.okWide P w .any base t v) (hb : (match P.underlying t with | some (.struct _) | some (.array _ _) => true | _ => false) = true) : ∃ cs, v = .agg cs := by
  unfold Value.okWide at h
  split at hb
  · rename_i fs hu; rw [hu] at h; exact ⟨_, h.choose_spec.1⟩
  · rename_i n e hu; rw [hu] at h; exact ⟨_, h.choose_spec.1⟩
  · cases hb
theorem below_all (hl : laidOutB P = true) {W W' : World} (hb : Below W.heap.size W W') : ∀ {ts : List TypeId} {vs : List Value} {ds : List (DataW H)} {p : List MemPlace} {shs : List (Bool × List Sh)}, shAll P ts = some shs →
    DataW.TrodAll enc P W 0 (fun _ => true) true ts vs ds p → DataW.TrodAll enc P W' 0 (fun b => decide (b < W.heap.size)) true ts vs ds p
  | [], _, _, _, _, _, h => by
    obtain ⟨rfl, rfl, rfl⟩ := trodAll_nil h
    exact trodAll_mk0
  | t :: ts, _, _, _, _, hs, h => by
    have hlt := h.lt
    obtain ⟨v, vs1, d, ds1, a, b, rfl, rfl, rfl, h1, h2⟩ := trodAll_cons h
    simp only [shAll, Option.bind_eq_some_iff] at hs
    obtain ⟨s, _, hs⟩ := hs
    split at hs
    · rename_i hr
      rw [Option.map_eq_some_iff] at hs
      obtain ⟨r, hr', _⟩ := hs
      exact ⟨a, b, Below.trod hl hr.1 hr.2 h1 hb (fun x hx => hlt x (by simp [hx])), below_all hl hb hr' h2, rfl⟩
    · cases hs
theorem args_rep {Γ : Cx} (hΓ : Γ.I = fun b => b < w.heap.size) : ∀ {ts : List TypeId} {vs : List Value} {ds : List (DataW H)} {p : List MemPlace} {shs : List (Bool × List Sh)}, shAll P ts = some shs →
    DataW.TrodAll enc P w 0 (fun _ => true) true ts vs ds p → (∀ (j : Nat) t v, ts[j]? = some t → vs[j]? = some v → Value.okWide P w .any base t v) →
    ∃ args : List V, ArgOk shs args ∧ vs.length = args.length ∧ ∀ (i : Nat) v u, args[i]? = some v → vs[i]? = some u → RepV Γ w v u
  | [], _, _, _, _, hs, h, _ => by
    obtain ⟨rfl, rfl, rfl⟩ := trodAll_nil h
    simp only [shAll, Option.some.injEq] at hs
    subst hs
    exact ⟨[], trivial, rfl, fun i v u h => by simp at h⟩
  | t :: ts, _, _, _, _, hs, h, hv => by
    obtain ⟨v, vs1, d, ds1, a, b, rfl, rfl, rfl, h1, h2⟩ := trodAll_cons h
    simp only [shAll, Option.bind_eq_some_iff] at hs
    obtain ⟨s, hs1, hs⟩ := hs
    split at hs
    · rename_i hr
      rw [Option.map_eq_some_iff] at hs
      obtain ⟨r, hr', rfl⟩ := hs
      obtain ⟨args, q1, q2, q3⟩ := args_rep hΓ hr' h2 (fun j t' v' hj hj' => hv (j + 1) t' v' (by simpa using hj) (by simpa using hj'))
      obtain ⟨fuel, hx⟩ := h1
      obtain ⟨es, e1, e2⟩ := trod_reps 20 t s fuel _ _ hs1 hx
      have hok := hv 0 t v rfl rfl
      have hcons : ∀ x : V, RepV Γ w x v → ∀ (i : Nat) (y : V) (u : Value), (x :: args)[i]? = some y → (v :: vs1)[i]? = some u → RepV Γ w y u := fun x hx i y u hy hu => by
        cases i with
        | zero => simp at hy hu; subst hy; subst hu; exact hx
        | succ i => exact q3 i y u (by simpa using hy) (by simpa using hu)
      cases hb : (match P.underlying t with | some (.struct _) | some (.array _ _) => true | _ => false) with
      | true =>
        obtain ⟨cs, rfl⟩ := okWide_agg hok hb
        refine ⟨.agg (es.map .d) :: args, ⟨⟨es, e1, .inl ⟨rfl, rfl⟩⟩, q1⟩, by simp [q2], hcons _ ?_⟩
        have e3 : cs.toList.length = es.length := e2.1
        refine .agg _ _ (by simpa using e3) (fun i c u hc hu => ?_)
        simp only [List.getElem?_map, Option.map_eq_some_iff] at hc
        obtain ⟨dd, hd, rfl⟩ := hc
        show RepD Γ.I w dd u
        rw [hΓ]
        exact e2.2 i dd u hd (by show cs.toList[i]? = some u; simpa using hu)
      | false =>
        have hone : v.cells.toList = [v] ∨ ∃ cs, v = .agg cs := by
          cases v <;> first | exact .inl rfl | exact .inr ⟨_, rfl⟩
        have hcell : Cell.okWide P w .any base t v := by
          unfold Value.okWide at hok
          split at hok
          · rename_i hu; rw [hu] at hb; cases hb
          · rename_i hu; rw [hu] at hb; cases hb
          · exact hok
        have hsl : s.length = 1 := by
          unfold shOf at hs1
          split at hs1
          · cases hs1; rfl
          · cases hs1; rfl
          · cases hs1; rfl
          · rename_i hu; rw [hu] at hb; cases hb
          · rename_i hu; rw [hu] at hb; cases hb
          · rw [Option.bind_eq_some_iff] at hs1
            obtain ⟨a, _, hs1⟩ := hs1
            split at hs1
            · cases hs1; rfl
            · cases hs1
          · cases hs1
        obtain ⟨dd, rfl⟩ : ∃ dd, es = [dd] := by
          have := e1.length
          rw [hsl] at this
          exact List.length_eq_one_iff.1 this
        refine ⟨.c (.d dd) :: args, ⟨⟨[dd], e1, .inr ⟨rfl, dd, rfl, rfl⟩⟩, q1⟩, by simp [q2], hcons _ ?_⟩
        have hvc : v.cells.toList = [v] := by
          rcases hone with h | ⟨cs, rfl⟩
          · exact h
          · exfalso
            unfold shOf at hs1
            split at hs1 <;> rename_i hu <;> first | (simp [Cell.okWide, Cell.ok, hu] at hcell; done) | (rw [hu] at hb; cases hb) | cases hs1
        refine .c _ _ ?_
        show RepD Γ.I w dd v
        rw [hΓ]
        exact e2.2 0 dd v rfl (by rw [hvc]; rfl)
    · cases hs
theorem storeOk_nil {Γ : Cx} (h : ∀ k, Γ.I k → k < w.heap.size) (hl : LayOk Γ.I w) : StoreOk Γ w [] :=
  ⟨h, fun id e hg => by simp [get] at hg, fun i j k hi => by
    rcases hi with ⟨_, h⟩ | ⟨_, _, _, _, h, _⟩ | ⟨_, _, _, _, h⟩ | ⟨_, _, h⟩ <;> simp [get] at h, hl⟩
theorem not_live_nil {Γ : Cx} {k : Nat} : ¬ Live Γ [] k := fun ⟨_, hi, _⟩ => by
  rcases hi with ⟨_, h⟩ | ⟨_, _, _, _, h, _⟩ | ⟨_, _, _, _, h⟩ | ⟨_, _, h⟩ <;> simp [get] at h
theorem law_calls {f : FuncId} {F : Func} {s : ChangeSpec} {shs : List (Bool × List Sh)} {tb : TypeId} (hl : laidOutB P = true) (hs : shAll P F.params.toList = some shs) (hv : s.vars = []) (hfn : ∀ ds : List (DataW H), ds.length = F.params.size → s.fn H ds = { results := [.lit (.bool true)], args := ds })
    (hr : F.resultTypes = #[tb]) (htb : P.underlying tb = some .bool) (hp : ∀ args, ArgOk shs args → PFD P f args (vbl true)) (W : World) (base : Nat) (args : Array Value) (ds gs : List (DataW H)) (before : List MemPlace)
    (hlw : LaidW W) (hval : ∀ (j : Nat) t v, F.params[j]? = some t → args[j]? = some v → Value.okWide P W .any base t v) (hW : DataW.Whole enc P F.params.toList s.vars false W args.toList ds gs before) :
    Calls P f args W fun e W' => ∃ v, e = .returned v ∧ s.post enc P F false true false false W args v W' := by
  have hW' := hW
  obtain ⟨p, q, hA, hV, rfl, hfz, hnd⟩ := hW
  rw [hv] at hV
  obtain ⟨rfl, rfl⟩ := trodVars_none hV
  let Γ : Cx := ⟨fun b => b < W.heap.size, fun _ => none, fun _ => none⟩
  obtain ⟨avs, h1, h2, h3⟩ := args_rep (Γ := Γ) rfl hs hA (fun j t v hj hj' => hval j t v (by simpa using hj) (by simpa using hj'))
  refine ((hp avs h1).h.2.2 Γ W args (storeOk_nil (fun k hk => hk) ⟨W, hlw, fun k hk => ⟨hk, rfl⟩⟩) (fun _ _ _ => rfl) ⟨by simpa using h2, fun i v u hv hu => h3 i v u hv (by simpa using hu)⟩).mono fun e W' hq => ?_
  obtain ⟨u, Γ', rfl, hu, _, _, _, hE⟩ := hq
  have hu : u = .bool true := by
    cases hu with
    | c _ _ h => cases (show RepD Γ'.I W' (.v (.bool true)) u from h); rfl
  subst hu
  have hb : Below W.heap.size W W' := ⟨hE.os, hE.tape, hE.output, hE.size, fun k hk => hE.keep k hk not_live_nil⟩
  have hlen : ds.length = F.params.size := by
    have : ∀ {ts : List TypeId} {vs : List Value} {ds : List (DataW H)} {p : List MemPlace}, DataW.TrodAll enc P W 0 (fun _ => true) true ts vs ds p → ds.length = ts.length := by
      intro ts
      induction ts with
      | nil => intro vs ds p h; obtain ⟨rfl, rfl, rfl⟩ := trodAll_nil h; rfl
      | cons t ts ih =>
        intro vs ds p h
        obtain ⟨v, vs1, d, ds1, a, b, rfl, rfl, rfl, h1, h2⟩ := trodAll_cons h
        simp [ih h2]
    simpa using this hA
  refine ⟨_, rfl, ds, [], p ++ [], [], p, [], hW', ?_, ?_, ?_, World.keptBut_mono (fun x hx => ⟨hx, .inr (.inl (by simpa using hx))⟩) (hb.frame _), fun h => by cases h⟩
  · rw [List.append_nil, hfn ds hlen, hr]
    exact trodAll_mk1 (shut_bool htb true)
  · rw [List.append_nil, hfn ds hlen]
    exact below_all hl hb hs hA
  · rw [List.append_nil, hfn ds hlen, hv]
    exact rfl
end
end Go.Pw
set_option linter.unusedVariables false
namespace Go.Pw
open Go Go.RowKit
theorem PFD.ri {P : Program} {f : FuncId} {args args' : List V} {v : V} (h : PFD P f args' v) (hr : RIs args args') : PFD P f args v :=
  ⟨h.h.1, h.h.2.1, fun Γ w us h1 h2 h3 => h.h.2.2 Γ w us h1 h2 (hr.rep h3)⟩
theorem okDs_cons {s : Sh} {ss : List Sh} {ds : List D} (h : OkDs (s :: ss) ds) : ∃ d es, ds = d :: es ∧ OkD s d ∧ OkDs ss es := by
  cases ds with
  | nil => unfold OkDs at h; exact h.elim
  | cons d es => unfold OkDs at h; exact ⟨d, es, rfl, h.1, h.2⟩
theorem okDs_nil {ds : List D} (h : OkDs [] ds) : ds = [] := by
  cases ds with
  | nil => rfl
  | cons d es => unfold OkDs at h; exact h.elim
theorem okD_int {k : IntKind} {d : D} (h : OkD (.int k) d) : ∃ n, d = .v (.int k n) ∧ k.has n = true := by unfold OkD at h; exact h
theorem okD_str {d : D} (h : OkD .str d) : ∃ s : ByteArray, d = .v (.string s) ∧ s.size ≤ maxLen := by unfold OkD at h; exact h
theorem okD_sl {row : List Sh} {d : D} (h : OkD (.sl row) d) : ∃ n f, d = .sl row.length n f ∧ n ≤ maxLen ∧ ∀ i, i < n → OkDs row (f i) := by unfold OkD at h; exact h
theorem okD_list {row : List Sh} {α : Type} {r : α → List D} {Q : α → Prop} (a0 : α) (hr : ∀ ds, OkDs row ds → ∃ a, ds = r a ∧ Q a) {d : D} (h : OkD (.sl row) d) :
    ∃ l : List α, CEq (.d d) (slv row.length r a0 l) ∧ l.length ≤ maxLen ∧ ∀ a ∈ l, Q a := by
  obtain ⟨n, f, rfl, hn, hf⟩ := okD_sl h
  have : ∀ i, ∃ a, i < n → f i = r a ∧ Q a := fun i => by
    by_cases hi : i < n
    · obtain ⟨a, ha⟩ := hr _ (hf i hi); exact ⟨a, fun _ => ha⟩
    · exact ⟨a0, fun h => absurd h hi⟩
  refine ⟨(List.range n).map fun i => Classical.choose (this i), .sl (by simp) fun i hi => ?_, by simpa using hn, fun a ha => ?_⟩
  · have h1 := (Classical.choose_spec (this i) hi).1
    rw [h1, List.getD_eq_getElem?_getD]
    simp [hi]
  · obtain ⟨i, hi, rfl⟩ := List.mem_map.1 ha
    exact (Classical.choose_spec (this i) (by simpa using hi)).2
abbrev i64 (n : Int) : Prop := IntKind.i64.has n = true
abbrev Arg (b : Bool) (sh : List Sh) (v : V) : Prop := ∃ ds, OkDs sh ds ∧ (b = true ∧ v = .agg (ds.map .d) ∨ b = false ∧ ∃ d, ds = [d] ∧ v = .c (.d d))
theorem arg_agg {sh : List Sh} {v : V} (h : Arg true sh v) : ∃ ds, v = .agg (ds.map .d) ∧ OkDs sh ds := by
  obtain ⟨ds, h1, ⟨_, rfl⟩ | ⟨h2, _⟩⟩ := h
  · exact ⟨ds, rfl, h1⟩
  · cases h2
end Go.Pw
namespace Go.Pw
theorem Fork.yes {b : Bool} {p q : Prop} (hb : b = true) (hp : p) : Fork b p q := ⟨fun _ => hp, fun h => absurd (hb.symm.trans h) (by decide)⟩
theorem Fork.no {b : Bool} {p q : Prop} (hb : b = false) (hq : q) : Fork b p q := ⟨fun h => absurd (hb.symm.trans h) (by decide), fun _ => hq⟩
theorem nd_t {x : Prop} [Decidable x] (h : ¬ x) : (!decide x) = true := by rw [decide_eq_false h]; rfl
theorem nd_f {x : Prop} [Decidable x] (h : x) : (!decide x) = false := by rw [decide_eq_true h]; rfl
end Go.Pw
set_option linter.unusedVariables false
namespace Go.Pw
open Go Go.RowKit
theorem ob {p : Prop} (h : p := by first | trivial | omega | ((try simp only [R64, E53, true_and, and_true, Int.toNat_natCast, List.length_cons, List.length_nil]); omega)) : p := h
theorem tt1 {b : Bool} (h : b = true := by first | exact rfl | (refine decide_eq_true ?_; omega) | (refine nd_t ?_; omega) | (simp only [decide_true, Bool.and_self, Bool.not_false] <;> fail)) : b = true := h
theorem ff1 {b : Bool} (h : b = false := by first | exact rfl | (refine decide_eq_false ?_; omega) | (refine nd_f ?_; omega) | (simp only [decide_true, Bool.and_self, Bool.not_true] <;> fail)) : b = false := h
theorem Owe.o {p q : Prop} (r : q) (l : p := by exact ob) : Owe p q := ⟨l, r⟩
theorem Owe.same {p q : Prop} (h : Owe p q) : Owe p q := h
theorem fkD {x p q : Prop} [h : Decidable x] (h1 : x → p) (h2 : ¬ x → q) : Fork (decide x) p q := Fork.dec h1 h2
theorem fkN {x p q : Prop} [h : Decidable x] (h1 : ¬ x → p) (h2 : x → q) : Fork (!decide x) p q := Fork.ndec h1 h2
theorem fkM {b : Bool} {p q : Prop} (h1 : b = true → p) (h2 : b = false → q) : Fork b p q := ⟨h1, h2⟩
theorem fkY {b : Bool} {p q : Prop} (hp : p) (hb : b = true := by exact tt1) : Fork b p q := Fork.yes hb hp
theorem fkF {b : Bool} {p q : Prop} (hq : q) (hb : b = false := by exact ff1) : Fork b p q := Fork.no hb hq
inductive QI where
  | v (x y : V)
  | c (x y : C)
  | e (x y : Ent)
  | vs (xs ys : List V)
  | cs (xs ys : List C)
  | en (env e0 : List (Nat × V))
  | eq (π : Nat → Nat) (env e0 : List (Nat × V))
  | st (π : Nat → Nat) (σ σ0 : Store)
def cloCB : C → Bool
  | .d _ | .tru | .fls | .rp _ | .z | .fn _ [] | .fl _ | .cx _ _ | .cl _ _ _ | .fnR _ _ | .fnB _ _ => true
  | _ => false
def cloCsB : List C → Bool
  | [] => true
  | c :: cs => cloCB c && cloCsB cs
def cloB : V → Bool
  | .c x => cloCB x
  | .agg cs => cloCsB cs
  | .unk => true
  | .tup _ => false
theorem cloCB_ok {c : C} (h : cloCB c = true) : cloC c := by
  unfold cloCB at h
  split at h <;> first | trivial | rfl | cases h
theorem cloCsB_ok : ∀ {cs : List C}, cloCsB cs = true → cloCs cs
  | [], _ => trivial
  | c :: cs, h => by
    simp only [cloCsB, Bool.and_eq_true] at h
    exact ⟨cloCB_ok h.1, cloCsB_ok h.2⟩
theorem cloB_ok {v : V} (h : cloB v = true) : clo v := by
  cases v with
  | c x => exact cloCB_ok h
  | agg cs => exact cloCsB_ok h
  | unk => trivial
  | tup => cases h
def QI.so : QI → Prop
  | .v x y => VEq x y
  | .c x y => CEq x y
  | .e x y => EEq x y
  | .vs xs ys => VEqs xs ys
  | .cs xs ys => CEqs xs ys
  | .en env e0 => envIs env e0
  | .eq π env e0 => envEq π env e0
  | .st π σ σ0 => stoEq π σ σ0
inductive QQ : QI → Prop
  | vsn : QQ (.vs [] [])
  | vsc {x y : V} {xs ys : List V} (h : QI.so (.v x y)) (t : QI.so (.vs xs ys)) : QQ (.vs (x :: xs) (y :: ys))
  | csn : QQ (.cs [] [])
  | csc {x y : C} {xs ys : List C} (h : QI.so (.c x y)) (t : QI.so (.cs xs ys)) : QQ (.cs (x :: xs) (y :: ys))
  | enn {env : List (Nat × V)} : QQ (.en env [])
  | enc {env e0 : List (Nat × V)} {t : Nat} {v : V} (h : QI.so (.v (lk env t) v)) (c : cloB v = true) (r : QI.so (.en env e0)) : QQ (.en env ((t, v) :: e0))
  | eqn {π : Nat → Nat} {env : List (Nat × V)} : QQ (.eq π env [])
  | eqc {π : Nat → Nat} {env e0 : List (Nat × V)} {t : Nat} {v : V} (h : QI.so (.v (lk env t) (rnV π v))) (r : QI.so (.eq π env e0)) : QQ (.eq π env ((t, v) :: e0))
  | stn {π : Nat → Nat} {σ : Store} : QQ (.st π σ [])
  | stc {π : Nat → Nat} {σ σ0 : Store} {id : Nat} {x y : Ent} (g : get σ (π id) = some y) (h : QI.so (.e y (rnE π x))) (r : QI.so (.st π σ σ0)) : QQ (.st π σ ((id, x) :: σ0))
  | vr (x : V) : QQ (.v x x)
  | er (x : Ent) : QQ (.e x x)
  | cr (x : C) : QQ (.c x x)
  | tru {b : Bool} (h : b = true) : QQ (.v (.c .tru) (vbl b))
  | fls {b : Bool} (h : b = false) : QQ (.v (.c .fls) (vbl b))
  | bool {a b : Bool} (h : a = b) : QQ (.v (vbl a) (vbl b))
  | int {k : IntKind} {a b : Int} (h : a = b) : QQ (.v (vi k a) (vi k b))
  | nil {s : Nat} {g : Nat → List D} : QQ (.v (.c (.d (.v (.slice none 0 0)))) (.c (.d (.sl s 0 g))))
  | z {s : Nat} {g : Nat → List D} : QQ (.v (.c .z) (.c (.d (.sl s 0 g))))
  | li1 {a0 : Int} : QQ (.v (.c (.d (.sl 1 [[dI a0]].length fun i => [[dI a0]].getD i []))) (.c (ints [a0])))
  | li2 {a0 a1 : Int} : QQ (.v (.c (.d (.sl 1 [[dI a0], [dI a1]].length fun i => [[dI a0], [dI a1]].getD i []))) (.c (ints [a0, a1])))
  | li3 {a0 a1 a2 : Int} : QQ (.v (.c (.d (.sl 1 [[dI a0], [dI a1], [dI a2]].length fun i => [[dI a0], [dI a1], [dI a2]].getD i []))) (.c (ints [a0, a1, a2])))
  | li4 {a0 a1 a2 a3 : Int} : QQ (.v (.c (.d (.sl 1 [[dI a0], [dI a1], [dI a2], [dI a3]].length fun i => [[dI a0], [dI a1], [dI a2], [dI a3]].getD i []))) (.c (ints [a0, a1, a2, a3])))
  | lp1 {a0 b0 : Int} : QQ (.v (.c (.d (.sl 2 [[dI a0, dI b0]].length fun i => [[dI a0, dI b0]].getD i []))) (.c (prs [(a0, b0)])))
  | lp2 {a0 b0 a1 b1 : Int} : QQ (.v (.c (.d (.sl 2 [[dI a0, dI b0], [dI a1, dI b1]].length fun i => [[dI a0, dI b0], [dI a1, dI b1]].getD i []))) (.c (prs [(a0, b0), (a1, b1)])))
  | lp3 {a0 b0 a1 b1 a2 b2 : Int} : QQ (.v (.c (.d (.sl 2 [[dI a0, dI b0], [dI a1, dI b1], [dI a2, dI b2]].length fun i => [[dI a0, dI b0], [dI a1, dI b1], [dI a2, dI b2]].getD i []))) (.c (prs [(a0, b0), (a1, b1), (a2, b2)])))
  | lp4 {a0 b0 a1 b1 a2 b2 a3 b3 : Int} : QQ (.v (.c (.d (.sl 2 [[dI a0, dI b0], [dI a1, dI b1], [dI a2, dI b2], [dI a3, dI b3]].length fun i => [[dI a0, dI b0], [dI a1, dI b1], [dI a2, dI b2], [dI a3, dI b3]].getD i []))) (.c (prs [(a0, b0), (a1, b1), (a2, b2), (a3, b3)])))
  | lt1 {a0 b0 c0 : Int} : QQ (.v (.c (.d (.sl 3 [[dI a0, dI b0, dI c0]].length fun i => [[dI a0, dI b0, dI c0]].getD i []))) (.c (trs [(a0, b0, c0)])))
  | lt2 {a0 b0 c0 a1 b1 c1 : Int} : QQ (.v (.c (.d (.sl 3 [[dI a0, dI b0, dI c0], [dI a1, dI b1, dI c1]].length fun i => [[dI a0, dI b0, dI c0], [dI a1, dI b1, dI c1]].getD i []))) (.c (trs [(a0, b0, c0), (a1, b1, c1)])))
  | lt3 {a0 b0 c0 a1 b1 c1 a2 b2 c2 : Int} : QQ (.v (.c (.d (.sl 3 [[dI a0, dI b0, dI c0], [dI a1, dI b1, dI c1], [dI a2, dI b2, dI c2]].length fun i => [[dI a0, dI b0, dI c0], [dI a1, dI b1, dI c1], [dI a2, dI b2, dI c2]].getD i []))) (.c (trs [(a0, b0, c0), (a1, b1, c1), (a2, b2, c2)])))
  | ms {id n m : Nat} (h : n = m) : QQ (.v (.c (.ms id n)) (.c (.ms id m)))
  | sll {α : Type} {s : Nat} {row : α → List D} {d : α} {l m : List α} (h : l = m) : QQ (.v (.c (slv s row d l)) (.c (slv s row d m)))
  | aggs {xs ys : List C} (h : QI.so (.cs xs ys)) : QQ (.v (.agg xs) (.agg ys))
  | boxs {xs ys : List C} (h : QI.so (.cs xs ys)) : QQ (.e (.box xs) (.box ys))
  | app1 {e : TypeId} {l l' : List Int} {a : Int} (hl : l' = l ++ [a]) : QQ (.e (.row e 1 (l.length + 1) (fun i => if i < l.length then r1 (l.getD i 0) else ([[dI a]].getD (i - l.length) [])) false) (rowv e 1 r1 0 l'))
  | app2 {e : TypeId} {l l' : List (Int × Int)} {a b : Int} (hl : l' = l ++ [(a, b)]) : QQ (.e (.row e 2 (l.length + 1) (fun i => if i < l.length then r2 (l.getD i (0, 0)) else ([[dI a, dI b]].getD (i - l.length) [])) false) (rowv e 2 r2 (0, 0) l'))
  | app3 {e : TypeId} {l l' : List (Int × Int × Int)} {a b c : Int} (hl : l' = l ++ [(a, b, c)]) : QQ (.e (.row e 3 (l.length + 1) (fun i => if i < l.length then r3 (l.getD i (0, 0, 0)) else ([[dI a, dI b, dI c]].getD (i - l.length) [])) false) (rowv e 3 r3 (0, 0, 0) l'))
  | cms {id n m : Nat} (h : n = m) : QQ (.c (.ms id n) (.ms id m))
  | cint {k : IntKind} {a b : Int} (h : a = b) : QQ (.c (.d (.v (.int k a))) (.d (.v (.int k b))))
  | csll {α : Type} {s : Nat} {row : α → List D} {d : α} {l m : List α} (h : l = m) : QQ (.c (slv s row d l) (slv s row d m))
  | cnil {s : Nat} {g : Nat → List D} : QQ (.c (.d (.v (.slice none 0 0))) (.d (.sl s 0 g)))
  | cz {s : Nat} {g : Nat → List D} : QQ (.c .z (.d (.sl s 0 g)))
  | ctru {b : Bool} (h : b = true) : QQ (.c .tru (.d (.v (.bool b))))
  | cfls {b : Bool} (h : b = false) : QQ (.c .fls (.d (.v (.bool b))))
  | cbool {a b : Bool} (h : a = b) : QQ (.c (.d (.v (.bool a))) (.d (.v (.bool b))))
  | lit {α : Type} {s : Nat} {row : α → List D} {d : α} {l : List α} {rs : List (List D)} (h : rs = l.map row) : QQ (.v (.c (.d (.sl s rs.length fun i => rs.getD i []))) (.c (slv s row d l)))
  | clit {α : Type} {s : Nat} {row : α → List D} {d : α} {l : List α} {rs : List (List D)} (h : rs = l.map row) : QQ (.c (.d (.sl s rs.length fun i => rs.getD i [])) (slv s row d l))
  | fl {a b : Int} (h : a = b) : QQ (.v (.c (.fl a)) (.c (.fl b)))
  | cx {a b c d : Int} (h : a = c) (h2 : b = d) : QQ (.v (.c (.cx a b)) (.c (.cx c d)))
  | mp {m : Nat} {es es' : List (Int × Int)} (h : es = es') : QQ (.e (.mp m es) (.mp m es'))
  | drp {α : Type} {s k : Nat} {row : α → List D} {d : α} {l m : List α} (h : m = l.drop k) : QQ (.v (.c (.d (.sl s (l.length - k) fun i => row (l.getD (k + i) d)))) (.c (slv s row d m)))
  | tak {α : Type} {s k : Nat} {row : α → List D} {d : α} {l m : List α} (h : k ≤ l.length ∧ m = l.take k) : QQ (.v (.c (.d (.sl s k fun i => row (l.getD i d)))) (.c (slv s row d m)))
  | cut {α : Type} {s k j : Nat} {row : α → List D} {d : α} {l m : List α} (h : k ≤ j ∧ j ≤ l.length ∧ m = (l.take j).drop k) : QQ (.v (.c (.d (.sl s (j - k) fun i => row (l.getD (k + i) d)))) (.c (slv s row d m)))
  | dapp {α : Type} {s : Nat} {row : α → List D} {d : α} {l l' : List α} {r : List D} (h : ∃ x, r = row x ∧ l' = l ++ [x]) : QQ (.v (.c (.d (.sl s (l.length + 1) fun i => if i < l.length then row (l.getD i d) else ([r].getD (i - l.length) [])))) (.c (slv s row d l')))
  | appg {α : Type} {e : TypeId} {s : Nat} {row : α → List D} {d : α} {l l' : List α} {r : List D} (h : ∃ x, r = row x ∧ l' = l ++ [x]) : QQ (.e (.row e s (l.length + 1) (fun i => if i < l.length then row (l.getD i d) else ([r].getD (i - l.length) [])) false) (rowv e s row d l'))
  | apps {α : Type} {e : TypeId} {s : Nat} {row : α → List D} {d : α} {l m l' : List α} (h : l' = l ++ m) : QQ (.e (.row e s (l.length + m.length) (fun i => if i < l.length then row (l.getD i d) else row (m.getD (i - l.length) d)) false) (rowv e s row d l'))
  | setg {α : Type} {e : TypeId} {s i j : Nat} {row : α → List D} {d : α} {l l' : List α} {ds : List D} (h : ∃ x, putD (row (l.getD i d)) j ds = row x ∧ l' = l.set i x) : QQ (.e (.row e s l.length (setRw (fun k => row (l.getD k d)) i j ds) false) (rowv e s row d l'))
  | mk {α : Type} {e : TypeId} {s n : Nat} {row : α → List D} {d : α} {l : List α} {r : List D} (h : ∃ x, r = row x ∧ l = List.replicate n x) : QQ (.e (.row e s n (fun _ => r) false) (rowv e s row d l))
  | elit {α : Type} {e : TypeId} {s : Nat} {row : α → List D} {d : α} {l : List α} {rs : List (List D)} (h : rs = l.map row) : QQ (.e (.row e s rs.length (fun i => rs.getD i []) false) (rowv e s row d l))
  | rll {α : Type} {e : TypeId} {s : Nat} {row : α → List D} {d : α} {l m : List α} {b : Bool} (h : l = m) : QQ (.e (.row e s l.length (fun i => row (l.getD i d)) b) (.row e s m.length (fun i => row (m.getD i d)) b))
theorem setRw_eq {α : Type} {e : TypeId} {s : Nat} {row : α → List D} {d : α} {l l' : List α} {i j : Nat} {ds : List D} (x : α) (h : putD (row (l.getD i d)) j ds = row x) (hl : l' = l.set i x) : EEq (.row e s l.length (setRw (fun k => row (l.getD k d)) i j ds) false) (rowv e s row d l') := by
  subst hl
  refine EEq.rowl (by simp) fun k hk => ?_
  unfold Pw.setRw
  rw [List.getD_eq_getElem?_getD (l := l.set i x), List.getElem?_set]
  split
  · rename_i hb
    have hb := Nat.eq_of_beq_eq_true hb
    subst hb
    rw [h, if_pos rfl, if_pos hk]; rfl
  · rename_i hb
    have hb : ¬ i = k := fun h => by subst h; rw [Nat.beq_refl] at hb; cases hb
    rw [if_neg hb]; show row (l.getD k d) = _; rw [List.getD_eq_getElem?_getD]
theorem getD_drop' {α : Type} {d : α} {l : List α} {k i : Nat} : (l.drop k).getD i d = l.getD (k + i) d := by
  simp only [List.getD_eq_getElem?_getD, List.getElem?_drop]
theorem getD_take' {α : Type} {d : α} {l : List α} {k i : Nat} (h : i < k) : (l.take k).getD i d = l.getD i d := by
  simp only [List.getD_eq_getElem?_getD, List.getElem?_take, if_pos h]
theorem lit_eq {α : Type} {s : Nat} {row : α → List D} {d : α} {l : List α} {rs : List (List D)} (h : rs = l.map row) : CEq (.d (.sl s rs.length fun i => rs.getD i [])) (slv s row d l) := by
  subst h
  refine CEq.sl (by simp) fun i hi => ?_
  have hi : i < l.length := by simpa using hi
  rw [List.getD_eq_getElem?_getD, List.getD_eq_getElem?_getD, List.getElem?_map, List.getElem?_eq_getElem hi]
  rfl
theorem QQ.sound {q : QI} (h : QQ q) : q.so := by
  cases h with
  | vsn | csn | enn | eqn | stn => trivial
  | vsc h t => exact ⟨h, t⟩
  | csc h t => exact ⟨h, t⟩
  | enc h c r => exact ⟨⟨h, cloB_ok c⟩, r⟩
  | eqc h r => exact ⟨h, r⟩
  | stc g h r => exact ⟨by rw [g]; exact h, r⟩
  | vr x => exact VEq.refl x
  | er x => exact EEq.same x
  | cr x => exact CEq.refl x
  | tru h => exact VEq.tru h
  | fls h => exact VEq.fls h
  | bool h => exact VEq.bool h
  | int h => exact VEq.int h
  | nil => exact VEq.nil
  | z => exact .c _ _ (.z _ _)
  | li1 => exact VEq.li_1
  | li2 => exact VEq.li_2
  | li3 => exact VEq.li_3
  | li4 => exact VEq.li_4
  | lp1 => exact VEq.lp_1
  | lp2 => exact VEq.lp_2
  | lp3 => exact VEq.lp_3
  | lp4 => exact VEq.lp_4
  | lt1 => exact VEq.lt_1
  | lt2 => exact VEq.lt_2
  | lt3 => exact VEq.lt_3
  | ms h => exact VEq.ms h
  | sll h => exact VEq.sll h
  | aggs h => exact VEq.aggs h
  | boxs h => exact EEq.boxs h
  | app1 h => exact EEq.app1 h
  | app2 h => exact EEq.app2 h
  | app3 h => exact EEq.app3 h
  | cms h => exact CEq.ms h
  | cint h => exact CEq.int h
  | csll h => exact CEq.sll h
  | cnil => exact CEq.nil
  | cz => exact .z _ _
  | ctru h => subst h; exact .tru
  | cfls h => subst h; exact .fls
  | cbool h => subst h; exact .refl _
  | lit h => exact .c _ _ (lit_eq h)
  | clit h => exact lit_eq h
  | fl h => subst h; exact .refl _
  | cx h h2 => subst h; subst h2; exact .refl _
  | mp h => subst h; exact .mp _ _
  | drp h => subst h; exact .c _ _ (CEq.sl (by simp) fun i hi => by rw [getD_drop'])
  | tak h => obtain ⟨h1, rfl⟩ := h; exact .c _ _ (CEq.sl (by simp; omega) fun i hi => by rw [getD_take' hi])
  | cut h => obtain ⟨h1, h2, rfl⟩ := h; exact .c _ _ (CEq.sl (by simp; omega) fun i hi => by rw [getD_drop', getD_take' (by omega)])
  | dapp h => obtain ⟨x, h1, rfl⟩ := h; exact .c _ _ (CEq.sl (by simp) fun i hi => row_app h1 i hi)
  | appg h => obtain ⟨x, h1, h2⟩ := h; exact EEq.app x h1 h2
  | apps h =>
    subst h
    refine EEq.rowl (by simp) fun i hi => ?_
    split
    · rename_i hlt; rw [List.getD_eq_getElem?_getD, List.getD_eq_getElem?_getD, List.getElem?_append_left hlt]
    · rename_i hlt; rw [List.getD_eq_getElem?_getD, List.getD_eq_getElem?_getD, List.getElem?_append_right (by omega)]
  | setg h => obtain ⟨x, h1, h2⟩ := h; exact setRw_eq x h1 h2
  | mk h =>
    obtain ⟨x, rfl, rfl⟩ := h
    refine EEq.rowl (by simp) fun i hi => ?_
    rw [List.getD_eq_getElem?_getD, List.getElem?_replicate, if_pos hi]; rfl
  | elit h =>
    subst h
    refine EEq.rowl (by simp) fun i hi => ?_
    rw [List.length_map] at hi
    rw [List.getD_eq_getElem?_getD, List.getD_eq_getElem?_getD, List.getElem?_map, List.getElem?_eq_getElem hi]
    rfl
  | rll h => subst h; exact EEq.same _
theorem qS {q : QI} (h : QQ q) : q.so := h.sound
theorem qv {x y : V} (h : QI.so (.v x y)) : VEq x y := h
theorem qc {x y : C} (h : QI.so (.c x y)) : CEq x y := h
theorem qe {x y : Ent} (h : QI.so (.e x y)) : EEq x y := h
theorem qvs {x y : List V} (h : QI.so (.vs x y)) : VEqs x y := h
theorem qcs {x y : List C} (h : QI.so (.cs x y)) : CEqs x y := h
theorem qen {x y : List (Nat × V)} (h : QI.so (.en x y)) : envIs x y := h
theorem qeq {π : Nat → Nat} {x y : List (Nat × V)} (h : QI.so (.eq π x y)) : envEq π x y := h
theorem qst {π : Nat → Nat} {x y : Store} (h : QI.so (.st π x y)) : stoEq π x y := h
theorem qis {base : Nat} {st st0 : St} {l : List Nat} (h : QI.so (.eq (nmAt base l) st.env st0.env)) (h2 : QI.so (.st (nmAt base l) st.σ st0.σ)) (nm : (nmOk base st0.nx l && envLtB st0.nx st0.env && stoLtB st0.nx st0.σ) = true := by exact rfl) : Is base st st0 l := ⟨nm, h, h2⟩
section
variable {P : Program} [m : Mix P] {N base : Nat}
theorem rqK {nx nx' : Nat} {rl : List RL} {vs vs0 : List V} {e : Exit} {st : St} (hres : resAll st.env st.σ rl = some vs0) (hv : QI.so (.vs vs0 vs)) (he : e = .normal ∨ e = .ret := by first | exact .inr rfl | exact .inl rfl) (hle : nx ≤ nx' := by exact Nat.le_refl _) (hc : cloL vs := by simp only [cloL, clo, cloC, cloCs, and_self]) : RetQ nx rl vs [] nx' e st :=
  RetQ.plain hle he hres hc hv
theorem rqF {nx nx' : Nat} {rl : List RL} {vs vs0 : List V} {e : Exit} {env : List (Nat × V)} {σ : Store} {nx1 : Nat} (t : Nat) (id : Nat) {n : Nat} {ty : TypeId} {s m : Nat} {f : Nat → List D} {fz : Bool} (hres : resAll env σ rl = some vs0) (h : lk (argEnv 0 vs0) t = .c (.ms id n)) (hg : get σ id = some (.row ty s m f fz))
    (hv : QI.so (.en ((t, .c (.d (.sl s n f))) :: argEnv 0 vs0) (argEnv 0 vs))) (hl : Nat.beq vs0.length vs.length = true := by exact rfl) (hle : Nat.ble nx nx' = true := by exact rfl) (hn : n ≤ m := by exact Nat.le_refl _) (he : e = .normal ∨ e = .ret := by first | exact .inr rfl | exact .inl rfl) : RetQ nx rl vs [] nx' e ⟨env, σ, nx1⟩ :=
  RetQ.of he hres hl ((Mv.freeze t id h hg hn).trans (Mv.plain hle hv))
theorem pi1 {f : FuncId} {lc : LCode} {rl : List RL} {args : List V} {v : V} (hf : FnOk P f N lc rl) (h : wp P N 0 lc ⟨argEnv 0 args, [], 0⟩ (RetQ 0 rl [v] [] 0)) (hN : Nat.ble args.length N = true := by exact rfl) (hc : cloL args := by simp only [cloL, clo, cloC, cloCs, and_self]) : PFD P f args v := PFD.of (vs := [v]) hf hN hc h
theorem pi2 {f : FuncId} {lc : LCode} {rl : List RL} {args : List V} {v v2 : V} (hf : FnOk P f N lc rl) (h : wp P N 0 lc ⟨argEnv 0 args, [], 0⟩ (RetQ 0 rl [v, v2] [] 0)) (hN : Nat.ble args.length N = true := by exact rfl) (hc : cloL args := by simp only [cloL, clo, cloC, cloCs, and_self]) : PFD P f args (.tup [v, v2]) := PFD.of (vs := [v, v2]) hf hN hc h
theorem pi3 {f : FuncId} {lc : LCode} {rl : List RL} {args : List V} {v v2 v3 : V} (hf : FnOk P f N lc rl) (h : wp P N 0 lc ⟨argEnv 0 args, [], 0⟩ (RetQ 0 rl [v, v2, v3] [] 0)) (hN : Nat.ble args.length N = true := by exact rfl) (hc : cloL args := by simp only [cloL, clo, cloC, cloCs, and_self]) : PFD P f args (.tup [v, v2, v3]) := PFD.of (vs := [v, v2, v3]) hf hN hc h
theorem fits {env : List (Nat × V)} {xs : List Operand} {args : List V} (h : Fits env xs args := by first | exact Fits.eq rfl | exact Fits.veq (qvs (by (repeat' first | exact rfl | (refine qS ?_; constructor)) <;> fail))) : Fits env xs args := h
variable {dst : Option Nat} {fop : Operand} {xs : List Operand} {g : Option (Nat × Bool)} {rest : List LIns} {env : List (Nat × V)} {σ : Store} {nx : Nat} {K : St → Prop} {f : FuncId} {args : List V} {v : V} {p : Prop} {M : List Nat} {acc : List (Bool × List Nat)}
theorem A1.oK (hc : PFD P f args v) (hf : evo env fop = .c (.fn f [])) (hg : guardOf env g = .run) (ha : (xs.map (evo env)).map normA = args) (h : putK dst v env fun env' => wpOps P N base rest env' σ nx none K) : OpsL P N base (⟨dst, .call fop xs, g⟩ :: rest) ⟨env, σ, nx⟩ K := Ops.pc hf (Fits.eq ha) hc hg h
theorem A2.oK (hc : p → PFD P f args v) (hf : evo env fop = .c (.fn f [])) (hg : guardOf env g = .run) (ha : (xs.map (evo env)).map normA = args) (h : putK dst v env fun env' => wpOps P N base rest env' σ nx none K) (hp : p := by exact ob) : OpsL P N base (⟨dst, .call fop xs, g⟩ :: rest) ⟨env, σ, nx⟩ K := Ops.pc hf (Fits.eq ha) (hc hp) hg h
theorem A3.oK (hc : PFD P f args v) (hf : evo env fop = .c (.fn f [])) (hg : guardOf env g = .run) (ha : (xs.map (evo env)).map normA = args) (h : putK dst v env fun env' => wpD P N base M rest env' σ nx none ((false, []) :: acc) K) : OpsDL P N base M (⟨dst, .call fop xs, g⟩ :: rest) ⟨env, σ, nx⟩ acc K := OpsD.pc hf (Fits.eq ha) hc hg h
theorem A4.oK (hc : p → PFD P f args v) (hf : evo env fop = .c (.fn f [])) (hg : guardOf env g = .run) (ha : (xs.map (evo env)).map normA = args) (h : putK dst v env fun env' => wpD P N base M rest env' σ nx none ((false, []) :: acc) K) (hp : p := by exact ob) : OpsDL P N base M (⟨dst, .call fop xs, g⟩ :: rest) ⟨env, σ, nx⟩ acc K := OpsD.pc hf (Fits.eq ha) (hc hp) hg h
theorem A1.pK (hc : PFD P f args v) (hf : evo env fop = .c (.fn f [])) (hg : guardOf env g = .run) (h : putK dst v env fun env' => wpOps P N base rest env' σ nx none K) (ha : Fits env xs args := by exact fits) : OpsL P N base (⟨dst, .call fop xs, g⟩ :: rest) ⟨env, σ, nx⟩ K := Ops.pc hf ha hc hg h
theorem A2.pK (hc : p → PFD P f args v) (hf : evo env fop = .c (.fn f [])) (hg : guardOf env g = .run) (h : putK dst v env fun env' => wpOps P N base rest env' σ nx none K) (ha : Fits env xs args := by exact fits) (hp : p := by exact ob) : OpsL P N base (⟨dst, .call fop xs, g⟩ :: rest) ⟨env, σ, nx⟩ K := Ops.pc hf ha (hc hp) hg h
theorem A3.pK (hc : PFD P f args v) (hf : evo env fop = .c (.fn f [])) (hg : guardOf env g = .run) (h : putK dst v env fun env' => wpD P N base M rest env' σ nx none ((false, []) :: acc) K) (ha : Fits env xs args := by exact fits) : OpsDL P N base M (⟨dst, .call fop xs, g⟩ :: rest) ⟨env, σ, nx⟩ acc K := OpsD.pc hf ha hc hg h
theorem A4.pK (hc : p → PFD P f args v) (hf : evo env fop = .c (.fn f [])) (hg : guardOf env g = .run) (h : putK dst v env fun env' => wpD P N base M rest env' σ nx none ((false, []) :: acc) K) (ha : Fits env xs args := by exact fits) (hp : p := by exact ob) : OpsDL P N base M (⟨dst, .call fop xs, g⟩ :: rest) ⟨env, σ, nx⟩ acc K := OpsD.pc hf ha (hc hp) hg h
variable {rows : List (List D)}
theorem RIs.rfl' : ∀ (R : List V), RIs R R
  | [] => .nil
  | _ :: R => .cons (RI.refl _) (RIs.rfl' R)
theorem ris0 {X Y : List V} (h : X.map normA = Y) : RIs X Y := h ▸ ris_norm _
theorem ris1 {x y : V} {R : List V} (h : QI.so (.v x y)) : RIs (x :: R) (y :: R) := .cons (VEq.ri (qv h)) (RIs.rfl' R)
theorem ris2 {x y x2 y2 : V} {R : List V} (h : QI.so (.v x y)) (h2 : QI.so (.v x2 y2)) : RIs (x :: x2 :: R) (y :: y2 :: R) := .cons (VEq.ri (qv h)) (.cons (VEq.ri (qv h2)) (RIs.rfl' R))
theorem fitsR {X args : List V} (h : RIs X args := by first | exact ris0 rfl | (refine ris1 ?_; (repeat' first | exact rfl | (refine qS ?_; constructor)); done) | (refine ris2 ?_ ?_; (repeat' first | exact rfl | (refine qS ?_; constructor)); done) | (refine VEqs.ris (qvs ?_); (repeat' first | exact rfl | (refine qS ?_; constructor)); done)) : RIs X args := h
theorem A1.pR (hc : PFD P f args v) (hf : evo env fop = .c (.fnR f rows)) (hg : guardOf env g = .run) (h : putK dst v env fun env' => wpOps P N base rest env' σ nx none K) (ha : RIs (xs.map (evo env) ++ rows.map fun r => V.c (.rp r)) args := by exact fitsR) : OpsL P N base (⟨dst, .call fop xs, g⟩ :: rest) ⟨env, σ, nx⟩ K := Ops.pcR hf ha hc hg h
theorem A2.pR (hc : p → PFD P f args v) (hf : evo env fop = .c (.fnR f rows)) (hg : guardOf env g = .run) (h : putK dst v env fun env' => wpOps P N base rest env' σ nx none K) (ha : RIs (xs.map (evo env) ++ rows.map fun r => V.c (.rp r)) args := by exact fitsR) (hp : p := by exact ob) : OpsL P N base (⟨dst, .call fop xs, g⟩ :: rest) ⟨env, σ, nx⟩ K := Ops.pcR hf ha (hc hp) hg h
theorem A3.pR (hc : PFD P f args v) (hf : evo env fop = .c (.fnR f rows)) (hg : guardOf env g = .run) (h : putK dst v env fun env' => wpD P N base M rest env' σ nx none ((false, []) :: acc) K) (ha : RIs (xs.map (evo env) ++ rows.map fun r => V.c (.rp r)) args := by exact fitsR) : OpsDL P N base M (⟨dst, .call fop xs, g⟩ :: rest) ⟨env, σ, nx⟩ acc K := OpsD.pcR hf ha hc hg h
theorem A4.pR (hc : p → PFD P f args v) (hf : evo env fop = .c (.fnR f rows)) (hg : guardOf env g = .run) (h : putK dst v env fun env' => wpD P N base M rest env' σ nx none ((false, []) :: acc) K) (ha : RIs (xs.map (evo env) ++ rows.map fun r => V.c (.rp r)) args := by exact fitsR) (hp : p := by exact ob) : OpsDL P N base M (⟨dst, .call fop xs, g⟩ :: rest) ⟨env, σ, nx⟩ acc K := OpsD.pcR hf ha (hc hp) hg h
variable {ds : List D}
end
theorem liveId_setE {Γ : Cx} {σ : Store} {id : Nat} {x y : Ent} (hg : get σ id = some x) (h : EEq x y) (j : Nat) : LiveId Γ (set σ id y) j ↔ LiveId Γ σ j := by
  rw [liveId_iff, liveId_iff]
  by_cases hj : j = id
  · subst hj
    rw [get_set_same hg]
    constructor
    · rintro ⟨e, he, hl⟩; cases he; exact ⟨x, hg, h.live.1 hl⟩
    · rintro ⟨e, he, hl⟩; rw [hg] at he; cases he; exact ⟨y, rfl, h.live.2 hl⟩
  · rw [get_set_other hj]
theorem StoreOk.setE {Γ : Cx} {w : World} {σ : Store} {id : Nat} {x y : Ent} (hs : StoreOk Γ w σ) (hg : get σ id = some x) (h : EEq x y) : StoreOk Γ w (set σ id y) where
  im := hs.im
  ok := fun j e he => by
    by_cases hj : j = id
    · subst hj
      rw [get_set_same hg] at he; cases he
      obtain ⟨b, hb, hok⟩ := hs.ok j x hg
      exact ⟨b, hb, h.ent hok⟩
    · rw [get_set_other hj] at he; exact hs.ok j e he
  inj := fun i j k hi hj => hs.inj i j k ((liveId_setE hg h i).1 hi) ((liveId_setE hg h j).1 hj)
  lay := hs.lay
theorem Mv.ent {base : Nat} {env : List (Nat × V)} {σ : Store} {nx id : Nat} {x y : Ent} (hg : get σ id = some x) (h : EEq x y) : Mv base ⟨env, σ, nx⟩ ⟨env, set σ id y, nx⟩ := fun N B0 Γ w a hc => by
  have hl : ∀ k, Live Γ (set σ id y) k ↔ Live Γ σ k := fun k => ⟨fun ⟨i, hi, hk⟩ => ⟨i, (liveId_setE hg h i).1 hi, hk⟩, fun ⟨i, hi, hk⟩ => ⟨i, (liveId_setE hg h i).2 hi, hk⟩⟩
  refine ⟨Γ, ⟨hc.size, hc.env, hc.ok.setE hg h, hc.free, hc.le, ?_⟩, ⟨rfl, rfl, rfl, Nat.le_refl _, fun _ h => h, fun _ h => .inl h, fun _ _ => rfl, fun _ _ => rfl, fun _ _ _ => rfl, fun k hk => .inl ((hl k).1 hk)⟩⟩
  obtain ⟨Ds, d1, d2, d3⟩ := hc.dfs
  refine ⟨Ds, d1, d2, fun D hD => ?_⟩
  obtain ⟨d4, d5, d6, d7⟩ := d3 D hD
  exact ⟨d4, d5, fun hlv => d6 ((hl D).1 hlv), d7⟩
section
variable {P : Program} {N base : Nat} {env : List (Nat × V)} {σ : Store} {nx : Nat} {x y : Ent}
theorem OpsL.ent {ops : List LIns} {K : St → Prop} (id : Nat) (hg : get σ id = some x) (h : EEq x y) (k : frS (set σ id y) fun σ' => OpsL P N base ops ⟨env, σ', nx⟩ K) : OpsL P N base ops ⟨env, σ, nx⟩ K := by
  rw [frS_eq] at k
  exact ⟨Ops.from (Mv.ent hg h) k.h⟩
theorem OpsL.go {ops : List LIns} {K : St → Prop} (h : wpOps P N base ops env σ nx none K) : OpsL P N base ops ⟨env, σ, nx⟩ K := ⟨Ops.wp h⟩
theorem SatL.ent {c : LCode} {Q : Exit → St → Prop} (id : Nat) (hg : get σ id = some x) (h : EEq x y) (k : frS (set σ id y) fun σ' => SatL P N base c ⟨env, σ', nx⟩ Q) : SatL P N base c ⟨env, σ, nx⟩ Q := by
  rw [frS_eq] at k
  exact ⟨Sat.from (Mv.ent hg h) k.h⟩
theorem MvQ.ent {e : Exit} {Q : Exit → St → Prop} (id : Nat) (hg : get σ id = some x) (h : EEq x y) (k : frS (set σ id y) fun σ' => MvQ base Q e ⟨env, σ', nx⟩) : MvQ base Q e ⟨env, σ, nx⟩ := by
  rw [frS_eq] at k
  exact MvQ.from (Mv.ent hg h) k
def toDL : List C → Option (List D)
  | [] => some []
  | c :: cs => match toD c, toDL cs with
    | some d, some ds => some (d :: ds)
    | _, _ => none
theorem toDL_get : ∀ {cs : List C} {ds : List D}, toDL cs = some ds → ds.length = cs.length ∧ ∀ (i : Nat) c d, cs[i]? = some c → ds[i]? = some d → toD c = some d
  | [], ds, h => by simp only [toDL, Option.some.injEq] at h; subst h; exact ⟨rfl, fun i c d h => by simp at h⟩
  | c :: cs, ds, h => by
    simp only [toDL] at h
    split at h
    · rename_i d l h1 h2
      cases h
      obtain ⟨h3, h4⟩ := toDL_get h2
      refine ⟨by simp [h3], fun i c' d' hc hd => ?_⟩
      cases i with
      | zero => simp at hc hd; subst hc; subst hd; exact h1
      | succ i => exact h4 i c' d' (by simpa using hc) (by simpa using hd)
    · cases h
theorem live_delE {Γ : Cx} {σ : Store} {id k : Nat} (h : Live Γ (del σ id) k) : Live Γ σ k := live_del h
theorem Conc.freezeB {B0 : Nat} {Γ : Cx} {w : World} {a : Act} {id : Nat} {cs : List C} {ds : List D} (hc : Conc N B0 base Γ w ⟨env, σ, nx⟩ a) (hg : get σ id = some (.box cs)) (hd : toDL cs = some ds) :
    ∃ Γ' b, Γ.ρ id = some b ∧ Γ' = Γ.also (fun k => k = b) ∧ Conc N B0 base Γ' w ⟨env, del σ id, nx⟩ a ∧ Ext base Γ w σ Γ' w (del σ id) ∧ ∀ off, RepP Γ'.I w (ds.drop off) (ptr b off) := by
  obtain ⟨b, hb, hnI, xs, t, hh, hsz, hcs⟩ := hc.ok.ok id _ hg
  have hli : LiveId Γ σ id := .inl ⟨cs, hg⟩
  have hle : CxLe Γ (Γ.also fun k => k = b) := CxLe.also _ _
  have hd1 := hc.ok.del id
  have hne : ∀ j, LiveId Γ (del σ id) j → Γ.ρ j ≠ some b := fun j hl hjb => by
    obtain ⟨hj, hl'⟩ := liveId_del hl
    exact hj (hc.ok.inj j id b hl' hli hjb hb)
  have hlt : b < w.heap.size := (Array.getElem?_eq_some_iff.1 hh).1
  have h1 : StoreOk (Γ.also fun k => k = b) w (del σ id) := hd1.keep hle (fun k hI => by
    rcases hI with hI | rfl
    · exact hc.ok.im k hI
    · exact hlt) (fun _ _ => rfl) (fun _ _ => rfl) (fun k hl hI => by
    rcases hI with hI | rfl
    · exact hd1.not_live hI hl
    · obtain ⟨j, hj, hjb⟩ := hl
      exact hne j hj hjb)
  have hlv : ∀ k, Live (Γ.also fun k => k = b) (del σ id) k → Live Γ σ k := fun k hk => live_delE (live_also.1 hk)
  have hext : Ext base Γ w σ (Γ.also fun k => k = b) w (del σ id) :=
    ⟨rfl, rfl, rfl, Nat.le_refl _, fun k hk => .inl hk, fun k hk => by
      rcases hk with hk | rfl
      · exact .inl hk
      · exact .inr (.inr ⟨id, hli, hb⟩), fun _ _ => rfl, fun _ _ => rfl, fun _ _ _ => rfl, fun k hk => .inl (hlv k hk)⟩
  refine ⟨_, b, hb, rfl, ⟨hc.size, fun t => (hc.env t).mono hle (fun _ _ => rfl), h1, hc.free, hc.le, ?_⟩, hext, fun off => ⟨_, rfl, .inr rfl, fun j d hj => ?_⟩⟩
  · obtain ⟨Ds, d1, d2, d3⟩ := hc.dfs
    refine ⟨Ds, d1, d2, fun D hD => ?_⟩
    obtain ⟨d4, d5, d6, d7⟩ := d3 D hD
    refine ⟨d4, fun hI => ?_, fun hl => d6 (hlv D hl), d7⟩
    rcases hI with h3 | rfl
    · exact d5 h3
    · exact d6 ⟨id, hli, hb⟩
  · rw [List.getElem?_drop] at hj
    obtain ⟨e1, e2⟩ := toDL_get hd
    have hjl : off + j < cs.length := by rw [← e1]; exact (List.getElem?_eq_some_iff.1 hj).1
    obtain ⟨x, hx, hr⟩ := hcs (off + j) cs[off + j] (List.getElem?_eq_getElem hjl)
    refine ⟨x, by rw [cell_at hh]; exact hx, ?_⟩
    exact (toD_rep (e2 (off + j) cs[off + j] d (List.getElem?_eq_getElem hjl) hj) hr).mono (fun _ h => .inl h) (fun _ _ => rfl)
def frzE (env : List (Nat × V)) (id : Nat) (ds : List D) : List Nat → List (Nat × V)
  | [] => env
  | t :: ts => match lk env t with
    | .c (.bp i off) => match Nat.beq i id with
      | true => (t, .c (.rp (ds.drop off))) :: frzE env id ds ts
      | false => frzE env id ds ts
    | _ => frzE env id ds ts
def frzK (env : List (Nat × V)) (id : Nat) (ds : List D) : List Nat → (List (Nat × V) → Prop) → Prop
  | [], k => k env
  | t :: ts, k => match lk env t with
    | .c (.bp i off) => match Nat.beq i id with
      | true => frzK env id ds ts fun e => k ((t, .c (.rp (ds.drop off))) :: e)
      | false => frzK env id ds ts k
    | _ => frzK env id ds ts k
theorem frzK_eq {id : Nat} {ds : List D} : ∀ (ts : List Nat) (k : List (Nat × V) → Prop), frzK env id ds ts k = k (frzE env id ds ts)
  | [], k => rfl
  | t :: ts, k => by
    simp only [frzK, frzE]
    split
    · split
      · rw [frzK_eq ts]
      · exact frzK_eq ts k
    · exact frzK_eq ts k
theorem Mv.freezeB (id : Nat) {cs : List C} {ds : List D} (ts : List Nat) (hg : get σ id = some (.box cs)) (hd : toDL cs = some ds) : Mv base ⟨env, σ, nx⟩ ⟨frzE env id ds ts, del σ id, nx⟩ := fun N B0 Γ w a hc => by
  obtain ⟨Γ', b, hb, rfl, h1, h2, h3⟩ := hc.freezeB hg hd
  refine ⟨_, ⟨h1.size, fun t' => ?_, h1.ok, h1.free, h1.le, h1.dfs⟩, h2⟩
  have key : ∀ ts, RepV (Γ.also fun k => k = b) w (lk (frzE env id ds ts) t') (a.tmps.getD t' undef) := by
    intro ts
    induction ts with
    | nil => exact h1.env t'
    | cons t ts ih =>
      simp only [frzE]
      split
      · rename_i i off hlk
        split
        · rename_i hi
          have hi := Nat.eq_of_beq_eq_true hi
          subst hi
          rw [lk_cons]
          split
          · rename_i ht
            subst ht
            have := hc.env t
            simp only at this
            rw [hlk] at this
            generalize a.tmps.getD t undef = u at this ⊢
            cases this with | c _ _ hr =>
            obtain ⟨b', hb', rfl⟩ := hr
            rw [hb] at hb'; cases hb'
            exact .c _ _ (h3 off)
          · exact ih
        · exact ih
      · exact ih
  exact key ts
theorem SatL.frB {c : LCode} {Q : Exit → St → Prop} (id : Nat) {cs : List C} {ds : List D} (ts : List Nat) (hg : get σ id = some (.box cs)) (hd : toDL cs = some ds) (k : frzK env id ds ts fun env' => frS (del σ id) fun σ' => SatL P N base c ⟨env', σ', nx⟩ Q) : SatL P N base c ⟨env, σ, nx⟩ Q := by
  rw [frzK_eq, frS_eq] at k
  exact ⟨Sat.from (Mv.freezeB id ts hg hd) k.h⟩
theorem OpsL.frB {ops : List LIns} {K : St → Prop} (id : Nat) {cs : List C} {ds : List D} (ts : List Nat) (hg : get σ id = some (.box cs)) (hd : toDL cs = some ds) (k : frzK env id ds ts fun env' => frS (del σ id) fun σ' => OpsL P N base ops ⟨env', σ', nx⟩ K) : OpsL P N base ops ⟨env, σ, nx⟩ K := by
  rw [frzK_eq, frS_eq] at k
  exact ⟨Ops.from (Mv.freezeB id ts hg hd) k.h⟩
theorem SatL.as {c : LCode} {Q : Exit → St → Prop} (t : Nat) (v : V) (h : VEq (lk env t) v) (k : SatL P N base c ⟨(t, v) :: env, σ, nx⟩ Q) : SatL P N base c ⟨env, σ, nx⟩ Q :=
  ⟨Sat.from (Mv.env fun t' => by
    rw [lk_cons]
    split
    · rename_i ht; subst ht; exact h.ri
    · exact RI.refl _) k.h⟩
theorem OpsL.as {ops : List LIns} {K : St → Prop} (t : Nat) (v : V) (h : VEq (lk env t) v) (k : OpsL P N base ops ⟨(t, v) :: env, σ, nx⟩ K) : OpsL P N base ops ⟨env, σ, nx⟩ K :=
  ⟨Ops.from (Mv.env fun t' => by
    rw [lk_cons]
    split
    · rename_i ht; subst ht; exact h.ri
    · exact RI.refl _) k.h⟩
theorem VEq.cut {α : Type} {s k j : Nat} {row : α → List D} {d : α} {l m : List α} (h1 : k ≤ j) (h2 : j ≤ l.length) (h : m = (l.take j).drop k) : VEq (.c (.d (.sl s (j - k) fun i => row (l.getD (k + i) d)))) (.c (slv s row d m)) := QQ.sound (.cut ⟨h1, h2, h⟩)
theorem SatL.frz {c : LCode} {Q : Exit → St → Prop} (t id : Nat) {n : Nat} {e : TypeId} {s m : Nat} {f : Nat → List D} {fz : Bool} (h : lk env t = .c (.ms id n)) (hg : get σ id = some (.row e s m f fz)) (hn : n ≤ m)
    (k : frS (set σ id (.row e s m f true)) fun σ' => SatL P N base c ⟨(t, .c (.d (.sl s n f))) :: env, σ', nx⟩ Q) : SatL P N base c ⟨env, σ, nx⟩ Q := by
  rw [frS_eq] at k
  exact ⟨Sat.from (Mv.freeze t id h hg hn) k.h⟩
end
end Go.Pw
set_option linter.unusedSimpArgs false
set_option linter.unusedVariables false
namespace Go.Pw
open Go
theorem mbd {a b A B : Int} (ha : -A ≤ a ∧ a ≤ A) (hb : -B ≤ b ∧ b ≤ B) : -(A * B) ≤ a * b ∧ a * b ≤ A * B := by
  have hA : 0 ≤ A := by omega
  have hB : 0 ≤ B := by omega
  have h : (a * b).natAbs ≤ (A * B).natAbs := by
    rw [Int.natAbs_mul, Int.natAbs_mul]
    exact Nat.mul_le_mul (by omega) (by omega)
  have : 0 ≤ A * B := Int.mul_nonneg hA hB
  omega
def unb : Bool → Int → Int
  | true, _ => 0
  | false, e => e
def fstE : List Int → Int
  | [] => 0
  | e :: l => if e = 0 then fstE l else e
theorem fstE_drop (l : List Int) (k : Nat) (h : k < l.length) : fstE (l.drop k) = if l.getD k 0 = 0 then fstE (l.drop (k + 1)) else l.getD k 0 := by
  rw [List.drop_eq_getElem_cons h, fstE, List.getD_eq_getElem?_getD, List.getElem?_eq_getElem h]
  rfl
theorem u64_wrap (n : Int) : IntKind.u64.wrap n = n % 18446744073709551616 := rfl
abbrev Lk := Int × Int × Int
abbrev Rg := Int × Int
abbrev lkOk (k : Lk) : Prop := (1 ≤ k.1 ∧ k.1 ≤ 1000) ∧ (-1000 ≤ k.2.1 ∧ k.2.1 ≤ 1000) ∧ 0 ≤ k.2.2 ∧ k.2.2 ≤ 20
abbrev curOk (n : Int) : Prop := -50 ≤ n ∧ n ≤ 50
structure LnOk (x z : Int) (l : List Lk) : Prop where
  x : -10000 ≤ x ∧ x ≤ 10000
  z : -10000 ≤ z ∧ z ≤ 10000
  n : 0 < l.length ∧ l.length ≤ 10
  l : ∀ k ∈ l, lkOk k
structure Ln where
  x : Int
  z : Int
  l : List Lk
  b : List Rg
abbrev Ln.v (L : Ln) : List C := [int L.x, int L.z, trs L.l, prs L.b]
def Ln.h (L : Ln) (k : Nat) : Int := (L.l.getD k (0, 0, 0)).1
def Ln.w (L : Ln) (k : Nat) : Int := (L.l.getD k (0, 0, 0)).2.1
def Ln.d (L : Ln) (k : Nat) : Int := (L.l.getD k (0, 0, 0)).2.2
def Ln.lo (L : Ln) (k : Nat) : Int := (L.b.getD k (0, 0)).1
def Ln.hi (L : Ln) (k : Nat) : Int := (L.b.getD k (0, 0)).2
def Ln.pl (L : Ln) : Nat → Int
  | 0 => L.x
  | k + 1 => L.pl k + L.d k * L.lo k
def Ln.ph (L : Ln) : Nat → Int
  | 0 => L.x
  | k + 1 => L.ph k + L.d k * L.hi k
def Ln.pz (L : Ln) : Nat → Int
  | 0 => L.z
  | k + 1 => L.pz k + L.w k
def Ln.hh (L : Ln) : Nat → Int
  | 0 => 0
  | k + 1 => L.h k
structure Ln.Ok (L : Ln) : Prop where
  k : LnOk L.x L.z L.l
  b : L.b.length = L.l.length
  c : ∀ r ∈ L.b, curOk r.1 ∧ curOk r.2 ∧ r.1 ≤ r.2
theorem getD_mem {α : Type} {l : List α} {k : Nat} (d : α) (h : k < l.length) : l.getD k d ∈ l := by
  rw [List.getD_eq_getElem?_getD, List.getElem?_eq_getElem h]; exact List.getElem_mem _
theorem Ln.Ok.lk {L : Ln} (h : L.Ok) {k : Nat} (hk : k < L.l.length) : (1 ≤ L.h k ∧ L.h k ≤ 1000) ∧ (-1000 ≤ L.w k ∧ L.w k ≤ 1000) ∧ 0 ≤ L.d k ∧ L.d k ≤ 20 := h.k.l _ (getD_mem _ hk)
theorem Ln.Ok.rg {L : Ln} (h : L.Ok) {k : Nat} (hk : k < L.l.length) : (-50 ≤ L.lo k ∧ L.lo k ≤ 50) ∧ (-50 ≤ L.hi k ∧ L.hi k ≤ 50) ∧ L.lo k ≤ L.hi k := h.c _ (getD_mem _ (by rw [h.b]; exact hk))
theorem Ln.Ok.dlo {L : Ln} (h : L.Ok) {k : Nat} (hk : k < L.l.length) : -1000 ≤ L.d k * L.lo k ∧ L.d k * L.lo k ≤ 1000 := by
  have h1 := h.lk hk
  have h2 := h.rg hk
  exact mbd (A := 20) (B := 50) (by omega) (by omega)
theorem Ln.Ok.dhi {L : Ln} (h : L.Ok) {k : Nat} (hk : k < L.l.length) : -1000 ≤ L.d k * L.hi k ∧ L.d k * L.hi k ≤ 1000 := by
  have h1 := h.lk hk
  have h2 := h.rg hk
  exact mbd (A := 20) (B := 50) (by omega) (by omega)
theorem Ln.Ok.bd {L : Ln} (h : L.Ok) : ∀ k : Nat, k ≤ L.l.length → (-20000 ≤ L.pl k ∧ L.pl k ≤ 20000) ∧ (-20000 ≤ L.ph k ∧ L.ph k ≤ 20000) ∧ -20000 ≤ L.pz k ∧ L.pz k ≤ 20000 := by
  have key : ∀ k : Nat, k ≤ L.l.length → (-10000 - 1000 * k ≤ L.pl k ∧ L.pl k ≤ 10000 + 1000 * k) ∧ (-10000 - 1000 * k ≤ L.ph k ∧ L.ph k ≤ 10000 + 1000 * k) ∧ -10000 - 1000 * k ≤ L.pz k ∧ L.pz k ≤ 10000 + 1000 * k := by
    intro k
    induction k with
    | zero => intro _; have := h.k.x; have := h.k.z; simp only [Ln.pl, Ln.ph, Ln.pz]; omega
    | succ k ih =>
      intro hk
      have := ih (by omega)
      have h1 := h.dlo (k := k) (by omega)
      have h2 := h.dhi (k := k) (by omega)
      have h3 := h.lk (k := k) (by omega)
      simp only [Ln.pl, Ln.ph, Ln.pz]
      omega
  intro k hk
  have := key k hk
  have := h.k.n
  omega
theorem Ln.Ok.round {L : Ln} (h : L.Ok) {k : Nat} (hk : k < L.l.length) :
    (-1000 ≤ (L.l.getD k (0, 0, 0)).2.2 * (L.b.getD k (0, 0)).1 ∧ (L.l.getD k (0, 0, 0)).2.2 * (L.b.getD k (0, 0)).1 ≤ 1000) ∧
    (-1000 ≤ (L.l.getD k (0, 0, 0)).2.2 * (L.b.getD k (0, 0)).2 ∧ (L.l.getD k (0, 0, 0)).2.2 * (L.b.getD k (0, 0)).2 ≤ 1000) ∧
    (-1000 ≤ (L.l.getD k (0, 0, 0)).2.1 ∧ (L.l.getD k (0, 0, 0)).2.1 ≤ 1000) ∧
    ((-20000 ≤ L.pl k ∧ L.pl k ≤ 20000) ∧ (-20000 ≤ L.ph k ∧ L.ph k ≤ 20000) ∧ -20000 ≤ L.pz k ∧ L.pz k ≤ 20000) ∧ L.b.length = L.l.length ∧ 0 < L.l.length ∧ L.l.length ≤ 10 :=
  ⟨h.dlo hk, h.dhi hk, (h.lk hk).2.1, h.bd k (by omega), h.b, h.k.n.1, h.k.n.2⟩
theorem map_take {α β : Type} (f : α → β) (d : α) (l : List α) (k : Nat) (h : k < l.length) : (l.take (k + 1)).map f = (l.take k).map f ++ [f (l.getD k d)] := by
  rw [List.take_succ_eq_append_getElem h, List.map_append, List.getD_eq_getElem?_getD, List.getElem?_eq_getElem h]; rfl
def accL {α : Type} (f : Nat → α) (k : Nat) : List α := (List.range k).map f
theorem accL_succ {α : Type} (f : Nat → α) (k : Nat) : accL f (k + 1) = accL f k ++ [f k] := by simp [accL, List.range_succ]
theorem accL_len {α : Type} (f : Nat → α) (k : Nat) : (accL f k).length = k := by simp [accL]
def fltL (p : Nat → Bool) (k : Nat) : List Int := ((List.range k).filter p).map fun i : Nat => (i : Int)
theorem fltL_succ (p : Nat → Bool) (k : Nat) : fltL p (k + 1) = if p k = true then fltL p k ++ [(k : Int)] else fltL p k := by
  simp only [fltL, List.range_succ, List.filter_append, List.map_append]
  by_cases h : p k = true <;> simp [h]
theorem fltL_len (p : Nat → Bool) (k : Nat) : (fltL p k).length ≤ k := by
  have := List.length_filter_le p (List.range k)
  simp [fltL] at *; exact this
end Go.Pw
set_option linter.unusedVariables false
set_option linter.unusedSimpArgs false
namespace Go.Pw
abbrev FxP := Int × Int × Int
abbrev FxR := Int × Int × Int × Int
abbrev FxB := (Int × Int) × (Int × Int) × (Int × Int)
abbrev FxN := ByteArray × FxP
abbrev fxp0 : FxP := (0, 0, 0)
abbrev fxr0 : FxR := (0, 0, 0, 0)
abbrev fxn0 : FxN := (⟨#[]⟩, (0, 0, 0))
abbrev fxb0 : FxB := ((0, 0), (0, 0), (0, 0))
def sgl (p : FxP) : FxB := ((p.1, p.1), (p.2.1, p.2.1), (p.2.2, p.2.2))
def sideB (a : FxB) (i : Int) : Int × Int := if i = 0 then a.1 else if i = 1 then a.2.1 else a.2.2
def nrR (r : Int × Int) (f : Int) : Int := max (max (r.1 - f) (f - r.2)) 0
def frR (r : Int × Int) (f : Int) : Int := max (r.2 - f) (f - r.1)
def sqB (a : FxB) (f : FxP) : Int × Int :=
  (0 + nrR a.1 f.1 * nrR a.1 f.1 + nrR a.2.1 f.2.1 * nrR a.2.1 f.2.1 + nrR a.2.2 f.2.2 * nrR a.2.2 f.2.2,
   0 + frR a.1 f.1 * frR a.1 f.1 + frR a.2.1 f.2.1 * frR a.2.1 f.2.1 + frR a.2.2 f.2.2 * frR a.2.2 f.2.2)
def msrB (B : List FxN) (a : FxB) (r : FxR) : Int × Int := if r.1 = 1 then sideB a r.2.1 else sqB a (B.getD r.2.1.toNat fxn0).2
def prmB (r : FxR) : Int × Int := if r.1 = 1 then (r.2.2.1, r.2.2.2) else (r.2.2.1 * r.2.2.1, r.2.2.2 * r.2.2.2)
def badP (B : List FxN) (p : FxP) (r : FxR) : Bool := !decide ((prmB r).1 ≤ (msrB B (sgl p) r).1 ∧ (msrB B (sgl p) r).1 ≤ (prmB r).2)
abbrev badL (B : List FxN) (l : List FxR) (p : FxP) (i : Nat) : Bool := badP B p (l.getD i fxr0)
def wrW (B : List FxN) (l : List FxR) (p : FxP) : List Int := fltL (badL B l p) l.length
def inB (a : FxB) (p : FxP) : Prop := (a.1.1 ≤ p.1 ∧ p.1 ≤ a.1.2) ∧ (a.2.1.1 ≤ p.2.1 ∧ p.2.1 ≤ a.2.1.2) ∧ a.2.2.1 ≤ p.2.2 ∧ p.2.2 ≤ a.2.2.2
instance {a : FxB} {p : FxP} : Decidable (inB a p) := by unfold inB; exact inferInstance
theorem sq_le_sq {a b : Int} (h0 : 0 ≤ a) (h : a ≤ b ∨ a ≤ -b) : a * a ≤ b * b := by
  rcases h with h | h
  · exact Int.mul_le_mul h h h0 (by omega)
  · have := Int.mul_le_mul h h h0 (by omega)
    rwa [Int.neg_mul_neg] at this
theorem nr_le {r : Int × Int} {f c : Int} (h1 : r.1 ≤ c) (h2 : c ≤ r.2) : nrR r f * nrR r f ≤ nrR (c, c) f * nrR (c, c) f := by
  refine sq_le_sq (by unfold nrR; omega) (.inl ?_)
  unfold nrR; simp only; omega
theorem le_fr {r : Int × Int} {f c : Int} (h1 : r.1 ≤ c) (h2 : c ≤ r.2) : frR (c, c) f * frR (c, c) f ≤ frR r f * frR r f := by
  refine sq_le_sq (by unfold frR; simp only; omega) (.inl ?_)
  unfold frR; simp only; omega
theorem nr_fr {f c : Int} : nrR (c, c) f * nrR (c, c) f = frR (c, c) f * frR (c, c) f := by
  have : nrR (c, c) f = frR (c, c) f := by unfold nrR frR; simp only; omega
  rw [this]
theorem sq_sgl {p f : FxP} : (sqB (sgl p) f).1 = (sqB (sgl p) f).2 := by
  simp only [sqB, sgl, nr_fr]
theorem msr_in {B : List FxN} {a : FxB} {r : FxR} {p : FxP} (h : inB a p) : (msrB B a r).1 ≤ (msrB B (sgl p) r).1 ∧ (msrB B (sgl p) r).1 ≤ (msrB B a r).2 := by
  obtain ⟨⟨x1, x2⟩, ⟨y1, y2⟩, z1, z2⟩ := h
  unfold msrB
  split
  · unfold sideB sgl
    split
    · exact ⟨x1, x2⟩
    · split
      · exact ⟨y1, y2⟩
      · exact ⟨z1, z2⟩
  · refine ⟨?_, ?_⟩
    · have h1 := nr_le (f := (B.getD r.2.1.toNat fxn0).2.1) x1 x2
      have h2 := nr_le (f := (B.getD r.2.1.toNat fxn0).2.2.1) y1 y2
      have h3 := nr_le (f := (B.getD r.2.1.toNat fxn0).2.2.2) z1 z2
      simp only [sqB, sgl]
      exact Int.add_le_add (Int.add_le_add (Int.add_le_add (Int.le_refl _) h1) h2) h3
    · rw [sq_sgl]
      have h1 := le_fr (f := (B.getD r.2.1.toNat fxn0).2.1) x1 x2
      have h2 := le_fr (f := (B.getD r.2.1.toNat fxn0).2.2.1) y1 y2
      have h3 := le_fr (f := (B.getD r.2.1.toNat fxn0).2.2.2) z1 z2
      simp only [sqB, sgl]
      exact Int.add_le_add (Int.add_le_add (Int.add_le_add (Int.le_refl _) h1) h2) h3
def ansB (B : List FxN) (a : FxB) (y n m : Int) (r : FxR) : Int :=
  if (prmB r).1 ≤ (msrB B a r).1 ∧ (msrB B a r).2 ≤ (prmB r).2 then y else if (msrB B a r).2 < (prmB r).1 ∨ (prmB r).2 < (msrB B a r).1 then n else m
theorem ans_yes {B : List FxN} {a : FxB} {r : FxR} {p : FxP} {y n m : Int} (h : inB a p) (hy : y ≠ n) (hm : y ≠ m) (ha : ansB B a y n m r = y) : badP B p r = false := by
  have h1 := msr_in (B := B) (r := r) h
  unfold ansB at ha
  split at ha
  · rename_i h2
    simp only [badP, Bool.not_eq_false', decide_eq_true_eq]
    omega
  · split at ha
    · exact absurd ha.symm hy
    · exact absurd ha.symm hm
theorem ans_no {B : List FxN} {a : FxB} {r : FxR} {p : FxP} {y n m : Int} (h : inB a p) (hy : y ≠ n) (hm : m ≠ n) (ha : ansB B a y n m r = n) : badP B p r = true := by
  have h1 := msr_in (B := B) (r := r) h
  unfold ansB at ha
  split at ha
  · exact absurd ha hy
  · split at ha
    · rename_i h2 h3
      simp only [badP, Bool.not_eq_true', decide_eq_false_iff_not]
      omega
    · exact absurd ha hm
def rgI (lo : Int) : Nat → List Int
  | 0 => []
  | n + 1 => lo :: rgI (lo + 1) n
theorem rgI_mem {n : Nat} : ∀ {lo x : Int}, x ∈ rgI lo n ↔ lo ≤ x ∧ x < lo + n := by
  induction n with
  | zero => intro lo x; simp [rgI]
  | succ n ih => intro lo x; rw [rgI, List.mem_cons, ih]; omega
def zsB (a : FxB) (x y z : Int) : List FxP := (rgI z (a.2.2.2 + 1 - z).toNat).map fun z => (x, y, z)
def ysB (a : FxB) (x y : Int) : List FxP := (rgI y (a.2.1.2 + 1 - y).toNat).flatMap fun y => zsB a x y a.2.2.1
def xsB (a : FxB) (x : Int) : List FxP := (rgI x (a.1.2 + 1 - x).toNat).flatMap fun x => ysB a x a.2.1.1
def posB (a : FxB) : List FxP := xsB a a.1.1
theorem zs_step {a : FxB} {x y z : Int} (h : z ≤ a.2.2.2) : zsB a x y z = (x, y, z) :: zsB a x y (z + 1) := by
  rw [zsB, show (a.2.2.2 + 1 - z).toNat = (a.2.2.2 + 1 - (z + 1)).toNat + 1 by omega, rgI]; rfl
theorem zs_end {a : FxB} {x y z : Int} (h : ¬ z ≤ a.2.2.2) : zsB a x y z = [] := by
  rw [zsB, show (a.2.2.2 + 1 - z).toNat = 0 by omega, rgI]; rfl
theorem ys_step {a : FxB} {x y : Int} (h : y ≤ a.2.1.2) : ysB a x y = zsB a x y a.2.2.1 ++ ysB a x (y + 1) := by
  rw [ysB, show (a.2.1.2 + 1 - y).toNat = (a.2.1.2 + 1 - (y + 1)).toNat + 1 by omega, rgI, List.flatMap_cons]; rfl
theorem ys_end {a : FxB} {x y : Int} (h : ¬ y ≤ a.2.1.2) : ysB a x y = [] := by
  rw [ysB, show (a.2.1.2 + 1 - y).toNat = 0 by omega, rgI]; rfl
theorem xs_step {a : FxB} {x : Int} (h : x ≤ a.1.2) : xsB a x = ysB a x a.2.1.1 ++ xsB a (x + 1) := by
  rw [xsB, show (a.1.2 + 1 - x).toNat = (a.1.2 + 1 - (x + 1)).toNat + 1 by omega, rgI, List.flatMap_cons]; rfl
theorem xs_end {a : FxB} {x : Int} (h : ¬ x ≤ a.1.2) : xsB a x = [] := by
  rw [xsB, show (a.1.2 + 1 - x).toNat = 0 by omega, rgI]; rfl
theorem zs_mem {a : FxB} {x y z : Int} {p : FxP} : p ∈ zsB a x y z ↔ p.1 = x ∧ p.2.1 = y ∧ z ≤ p.2.2 ∧ p.2.2 ≤ a.2.2.2 := by
  obtain ⟨p1, p2, p3⟩ := p
  simp only [zsB, List.mem_map, rgI_mem]
  constructor
  · rintro ⟨w, hw, he⟩
    simp only [Prod.mk.injEq] at he
    obtain ⟨rfl, rfl, rfl⟩ := he
    exact ⟨rfl, rfl, hw.1, by omega⟩
  · rintro ⟨rfl, rfl, h⟩
    exact ⟨p3, ⟨h.1, by have := h.2; omega⟩, rfl⟩
theorem ys_mem {a : FxB} {x y : Int} {p : FxP} : p ∈ ysB a x y ↔ p.1 = x ∧ (y ≤ p.2.1 ∧ p.2.1 ≤ a.2.1.2) ∧ a.2.2.1 ≤ p.2.2 ∧ p.2.2 ≤ a.2.2.2 := by
  simp only [ysB, List.mem_flatMap, rgI_mem, zs_mem]
  constructor
  · rintro ⟨w, hw, rfl, rfl, h⟩
    exact ⟨rfl, by omega, h⟩
  · rintro ⟨rfl, h1, h2⟩
    exact ⟨p.2.1, by omega, rfl, rfl, h2⟩
theorem pos_mem {a : FxB} {p : FxP} : p ∈ posB a ↔ inB a p := by
  simp only [posB, xsB, List.mem_flatMap, rgI_mem, ys_mem]
  constructor
  · rintro ⟨w, hw, rfl, h1, h2⟩
    exact ⟨by omega, h1, h2⟩
  · rintro ⟨h0, h1, h2⟩
    exact ⟨p.1, by omega, rfl, h1, h2⟩
theorem pos_ne {a : FxB} (h : a.1.1 ≤ a.1.2 ∧ a.2.1.1 ≤ a.2.1.2 ∧ a.2.2.1 ≤ a.2.2.2) : posB a ≠ [] := by
  have : (a.1.1, a.2.1.1, a.2.2.1) ∈ posB a := pos_mem.2 ⟨⟨Int.le_refl _, h.1⟩, ⟨Int.le_refl _, h.2.1⟩, Int.le_refl _, h.2.2⟩
  intro e; rw [e] at this; cases this
structure FxW where
  best : List Int
  wit : FxP
  found : Bool
def stW (cmp : List Int → List Int → Int) (f : FxP → List Int) (s : FxW) (p : FxP) : FxW :=
  if s.found = false ∨ (f p).length < s.best.length ∨ ((f p).length = s.best.length ∧ cmp (f p) s.best < 0) then ⟨f p, p, true⟩ else s
abbrev w0W : FxW := ⟨[], fxp0, false⟩
structure InW (f : FxP → List Int) (S : List FxP) (s : FxW) : Prop where
  e : s.best = f s.wit
  m : s.wit ∈ S
  l : ∀ q ∈ S, s.best.length ≤ (f q).length
theorem stW_found {cmp : List Int → List Int → Int} {f : FxP → List Int} : ∀ (L S : List FxP) (s : FxW), s.found = true → InW f S s → (L.foldl (stW cmp f) s).found = true ∧ InW f (S ++ L) (L.foldl (stW cmp f) s)
  | [], S, s, h, hi => ⟨h, by rw [List.append_nil]; exact hi⟩
  | p :: L, S, s, h, hi => by
    have key : (stW cmp f s p).found = true ∧ InW f (S ++ [p]) (stW cmp f s p) := by
      unfold stW
      split
      · rename_i hc
        refine ⟨rfl, rfl, by simp, fun q hq => ?_⟩
        simp only at hq ⊢
        rcases List.mem_append.1 hq with hq | hq
        · have := hi.l q hq
          rcases hc with hc | hc | hc
          · rw [h] at hc; cases hc
          · omega
          · omega
        · rw [List.mem_singleton.1 hq]; exact Nat.le_refl _
      · rename_i hc
        refine ⟨h, hi.e, List.mem_append_left _ hi.m, fun q hq => ?_⟩
        rcases List.mem_append.1 hq with hq | hq
        · exact hi.l q hq
        · rw [List.mem_singleton.1 hq]
          rcases Nat.lt_or_ge (f p).length s.best.length with h1 | h1
          · exact absurd (.inr (.inl h1)) hc
          · exact h1
    have := stW_found (cmp := cmp) L (S ++ [p]) _ key.1 key.2
    rw [List.append_assoc] at this
    exact this
theorem stW_all {cmp : List Int → List Int → Int} {f : FxP → List Int} {L : List FxP} (h : L ≠ []) : (L.foldl (stW cmp f) w0W).found = true ∧ InW f L (L.foldl (stW cmp f) w0W) := by
  cases L with
  | nil => exact absurd rfl h
  | cons p L =>
    have e : stW cmp f w0W p = ⟨f p, p, true⟩ := by rw [stW, if_pos (.inl rfl)]
    rw [List.foldl_cons, e]
    exact stW_found L [p] _ rfl ⟨rfl, by simp, fun q hq => by rw [List.mem_singleton.1 hq]; exact Nat.le_refl _⟩
def stV (ok : FxP → Bool) (s : FxB × Int) (p : FxP) : FxB × Int :=
  if ok p = true then (if s.2 = 0 then sgl p else ((min s.1.1.1 p.1, max s.1.1.2 p.1), (min s.1.2.1.1 p.2.1, max s.1.2.1.2 p.2.1), (min s.1.2.2.1 p.2.2, max s.1.2.2.2 p.2.2)), s.2 + 1) else s
abbrev v0V : FxB × Int := (fxb0, 0)
theorem stV_count {ok : FxP → Bool} : ∀ (L : List FxP) (s : FxB × Int), (L.foldl (stV ok) s).2 = s.2 + (L.countP ok : Nat)
  | [], s => by simp
  | p :: L, s => by
    rw [List.foldl_cons, stV_count L, List.countP_cons, stV]
    split <;> simp <;> omega
structure InV (S : List FxP) (o : FxB) : Prop where
  i : ∀ g ∈ S, inB o g
  x1 : ∃ g ∈ S, g.1 = o.1.1
  x2 : ∃ g ∈ S, g.1 = o.1.2
  y1 : ∃ g ∈ S, g.2.1 = o.2.1.1
  y2 : ∃ g ∈ S, g.2.1 = o.2.1.2
  z1 : ∃ g ∈ S, g.2.2 = o.2.2.1
  z2 : ∃ g ∈ S, g.2.2 = o.2.2.2
theorem InV.one (p : FxP) : InV [p] (sgl p) :=
  ⟨fun g hg => by rw [List.mem_singleton.1 hg]; exact ⟨⟨Int.le_refl _, Int.le_refl _⟩, ⟨Int.le_refl _, Int.le_refl _⟩, Int.le_refl _, Int.le_refl _⟩,
    ⟨p, by simp, rfl⟩, ⟨p, by simp, rfl⟩, ⟨p, by simp, rfl⟩, ⟨p, by simp, rfl⟩, ⟨p, by simp, rfl⟩, ⟨p, by simp, rfl⟩⟩
theorem min_att {S : List FxP} {f : FxP → Int} {m : Int} {p : FxP} (h : ∃ g ∈ S, f g = m) : ∃ g ∈ S ++ [p], f g = min m (f p) := by
  obtain ⟨g, hg, he⟩ := h
  rcases Int.le_total m (f p) with h1 | h1
  · exact ⟨g, List.mem_append_left _ hg, by rw [he]; omega⟩
  · exact ⟨p, by simp, by omega⟩
theorem max_att {S : List FxP} {f : FxP → Int} {m : Int} {p : FxP} (h : ∃ g ∈ S, f g = m) : ∃ g ∈ S ++ [p], f g = max m (f p) := by
  obtain ⟨g, hg, he⟩ := h
  rcases Int.le_total m (f p) with h1 | h1
  · exact ⟨p, by simp, by omega⟩
  · exact ⟨g, List.mem_append_left _ hg, by rw [he]; omega⟩
theorem InV.add {S : List FxP} {o : FxB} (h : InV S o) (p : FxP) : InV (S ++ [p]) ((min o.1.1 p.1, max o.1.2 p.1), (min o.2.1.1 p.2.1, max o.2.1.2 p.2.1), (min o.2.2.1 p.2.2, max o.2.2.2 p.2.2)) where
  i := fun g hg => by
    rcases List.mem_append.1 hg with hg | hg
    · obtain ⟨h1, h2, h3⟩ := h.i g hg
      exact ⟨by simp only; omega, by simp only; omega, by simp only; omega⟩
    · rw [List.mem_singleton.1 hg]
      exact ⟨by simp only; omega, by simp only; omega, by simp only; omega⟩
  x1 := min_att (f := fun g => g.1) h.x1
  x2 := max_att (f := fun g => g.1) h.x2
  y1 := min_att (f := fun g => g.2.1) h.y1
  y2 := max_att (f := fun g => g.2.1) h.y2
  z1 := min_att (f := fun g => g.2.2) h.z1
  z2 := max_att (f := fun g => g.2.2) h.z2
theorem stV_in {ok : FxP → Bool} : ∀ (L S : List FxP) (s : FxB × Int), 0 ≤ s.2 → (0 < s.2 → InV S s.1) → (s.2 = 0 → S = []) → 0 < (L.foldl (stV ok) s).2 → InV (S ++ L.filter ok) (L.foldl (stV ok) s).1
  | [], S, s, h0, h, hz, hp => by rw [List.filter_nil, List.append_nil]; exact h hp
  | p :: L, S, s, h0, h, hz, hp => by
    rw [List.foldl_cons] at hp ⊢
    by_cases hk : ok p = true
    · rw [List.filter_cons, if_pos hk, show S ++ p :: L.filter ok = (S ++ [p]) ++ L.filter ok by simp]
      have e : stV ok s p = (if s.2 = 0 then sgl p else ((min s.1.1.1 p.1, max s.1.1.2 p.1), (min s.1.2.1.1 p.2.1, max s.1.2.1.2 p.2.1), (min s.1.2.2.1 p.2.2, max s.1.2.2.2 p.2.2)), s.2 + 1) := by rw [stV, if_pos hk]
      rw [e] at hp ⊢
      refine stV_in L (S ++ [p]) _ (by simp only; omega) (fun _ => ?_) (fun hh => by simp only at hh; omega) hp
      simp only
      split
      · rename_i h2; rw [hz h2]; exact InV.one p
      · exact (h (by omega)).add p
    · rw [List.filter_cons, if_neg hk]
      have e : stV ok s p = s := by rw [stV, if_neg hk]
      rw [e] at hp ⊢
      exact stV_in L S s h0 h hz hp
theorem vote_in {ok : FxP → Bool} {L : List FxP} (h : 0 < (L.foldl (stV ok) v0V).2) : InV (L.filter ok) (L.foldl (stV ok) v0V).1 :=
  stV_in L [] v0V (Int.le_refl _) (fun h => absurd h (by decide)) (fun _ => rfl) h
theorem vote_n {ok : FxP → Bool} {L : List FxP} : (L.foldl (stV ok) v0V).2 = (L.countP ok : Nat) := by
  rw [stV_count]; simp
def cmnB (a b : FxB) : FxB := ((max a.1.1 b.1.1, min a.1.2 b.1.2), (max a.2.1.1 b.2.1.1, min a.2.1.2 b.2.1.2), (max a.2.2.1 b.2.2.1, min a.2.2.2 b.2.2.2))
theorem cmn_eq {S T : List FxP} {f v : FxB} (hf : InV S f) (hv : InV T v) (h : ∀ g ∈ S, g ∈ T) : cmnB f v = f := by
  obtain ⟨g1, m1, e1⟩ := hf.x1
  obtain ⟨g2, m2, e2⟩ := hf.x2
  obtain ⟨g3, m3, e3⟩ := hf.y1
  obtain ⟨g4, m4, e4⟩ := hf.y2
  obtain ⟨g5, m5, e5⟩ := hf.z1
  obtain ⟨g6, m6, e6⟩ := hf.z2
  have a1 := (hv.i g1 (h _ m1)).1.1
  have a2 := (hv.i g2 (h _ m2)).1.2
  have a3 := (hv.i g3 (h _ m3)).2.1.1
  have a4 := (hv.i g4 (h _ m4)).2.1.2
  have a5 := (hv.i g5 (h _ m5)).2.2.1
  have a6 := (hv.i g6 (h _ m6)).2.2.2
  obtain ⟨⟨f1, f2⟩, ⟨f3, f4⟩, f5, f6⟩ := f
  simp only at e1 e2 e3 e4 e5 e6
  simp only [cmnB]
  congr 1
  · congr 1 <;> omega
  · congr 1
    · congr 1 <;> omega
    · congr 1 <;> omega
theorem rgI_len : ∀ (n : Nat) (lo : Int), (rgI lo n).length = n
  | 0, _ => rfl
  | n + 1, lo => by rw [rgI, List.length_cons, rgI_len n]
theorem flat_le {α β : Type} {f : α → List β} {c : Nat} : ∀ {l : List α}, (∀ x ∈ l, (f x).length ≤ c) → (l.flatMap f).length ≤ l.length * c
  | [], _ => by simp
  | x :: l, h => by
    have h1 := h x (by simp)
    have h2 := flat_le (l := l) (f := f) (c := c) fun y hy => h y (by simp [hy])
    rw [List.flatMap_cons, List.length_append, List.length_cons, Nat.add_mul, Nat.one_mul]
    omega
theorem pos_len {a : FxB} (h : a.1.2 - a.1.1 ≤ 20000 ∧ a.2.1.2 - a.2.1.1 ≤ 20000 ∧ a.2.2.2 - a.2.2.1 ≤ 20000) : (posB a).length ≤ 8001200060001 := by
  obtain ⟨h1, h2, h3⟩ := h
  have z : ∀ x y, (zsB a x y a.2.2.1).length ≤ 20001 := fun x y => by rw [zsB, List.length_map, rgI_len]; omega
  have y : ∀ x, (ysB a x a.2.1.1).length ≤ 20001 * 20001 := fun x => by
    refine Nat.le_trans (flat_le fun y _ => z x y) ?_
    rw [rgI_len]; exact Nat.mul_le_mul_right _ (by omega)
  refine Nat.le_trans (flat_le fun x _ => y x) ?_
  rw [rgI_len]
  exact Nat.mul_le_mul_right (20001 * 20001) (show _ ≤ 20001 by omega)
theorem vote_le {ok : FxP → Bool} {L : List FxP} {s : FxB × Int} : s.2 ≤ (L.foldl (stV ok) s).2 := by rw [stV_count]; omega
end Go.Pw
set_option linter.unusedVariables false
namespace Go.Pw
open Go Go.RowKit
section
variable {P : Program} {N base : Nat}
theorem nmAt_nil (base : Nat) : nmAt base [] = id := by
  funext i
  unfold nmAt
  split <;> rfl
theorem CallD.of [m : Mix P] {f : FuncId} {lc : LCode} {rl : List RL} {args vs : List V} {σ σ' : Store} {nx nx' : Nat} (hf : FnOk P f N lc rl) (hN : Nat.ble args.length N = true) (hle : Nat.ble nx nx' = true) (hin : Is nx ⟨argEnv 0 args, σ, nx⟩ ⟨argEnv 0 args, σ, nx⟩ [])
    (h : wp P N nx lc ⟨argEnv 0 args, σ, nx⟩ (RetQ nx rl vs σ' nx')) : CallD P f args σ nx (retV vs) σ' nx' := by
  obtain ⟨hent, own, fn, h1, h2⟩ := hf
  have := hin.wk
  rw [nmAt_nil] at this
  exact CallD.enter h1 hent h2 (Nat.le_of_ble_eq_true hN) (Nat.le_of_ble_eq_true hle) this (Sat.of h)
theorem RetQ.is {nx nx' : Nat} {rl : List RL} {vs : List V} {σ' : Store} {e : Exit} {env : List (Nat × V)} (hres : resAll env σ' rl = some vs) (he : e = .normal ∨ e = .ret := by first | exact .inr rfl | exact .inl rfl) : RetQ nx rl vs σ' nx' e ⟨env, σ', nx'⟩ :=
  ⟨he, vs, hres, rfl, Mv.refl _ _⟩
end
end Go.Pw
set_option linter.unusedVariables false
namespace Go.Pw
open Go Go.RowKit
theorem RepL.one {Γ : Cx} {w : World} {a : V} {us : Array Value} (h : RepL Γ w [a] us) : ∃ u, us = #[u] ∧ RepV Γ w a u := by
  obtain ⟨us⟩ := us
  have h1 := h.1
  match us, h1 with
  | [u], _ => exact ⟨u, rfl, h.2 0 _ _ rfl rfl⟩
theorem LayOk.cell {I : Nat → Prop} {w : World} (h : LayOk I w) : ∃ W0, LaidW W0 ∧ (∀ a v, W0.cell? a = some v → w.cell? a = some v) ∧ ∀ k, k < W0.heap.size → w.heap[k]? = W0.heap[k]? := by
  obtain ⟨W0, h1, h2⟩ := h
  refine ⟨W0, h1, fun a v hv => ?_, fun k hk => (h2 k hk).2⟩
  have hb := World.block_lt_of_cell? _ _ hv
  have e := (h2 _ hb).2
  rw [← hv]
  simp only [World.cell?, e]
end Go.Pw
set_option linter.unusedVariables false
namespace Go.Pw
open Go Go.RowKit
section
variable {P : Program} {N base : Nat}
def rdS (P : Program) (N base : Nat) (x : LCode) (Q : Exit → St → Prop) : Nat → Exit → St → Prop
  | 0, .normal, _ => False
  | m + 1, .normal, st => Sat P N base x st (rdS P N base x Q m)
  | _, e, st => Q e st
theorem Sat.roundsN {x : LCode} {Q : Exit → St → Prop} (m : Nat) {st : St} (h : Sat P N base x st (rdS P N base x Q m)) : Sat P N base (.loop x) st Q := by
  intro ro n B0 own code hro hl Γ0 Γ w0 w σ0 a hc hext
  obtain ⟨c1, rfl, h1⟩ := low_loop hl
  have key : ∀ m (st : St) (Γ : Cx) (w : World) (a : Act), Conc N B0 base Γ w st a → Ext base Γ0 w0 σ0 Γ w st.σ → Sat P N base x st (rdS P N base x Q m) → Code.roundsIn (FW ro) n P c1 (Post N B0 base Γ0 w0 σ0 Q) (m + 1) a w := by
    intro m
    induction m with
    | zero =>
      intro st Γ w a hc hext h
      rw [roundsIn_succ]
      refine wpIn_mono (h ro n B0 own c1 hro h1 Γ0 Γ w0 w σ0 a hc hext) (fun e a' w' ⟨Γ', st', h3, h4, h5⟩ => ?_)
      cases e with
      | normal => exact h5.elim
      | _ => exact ⟨Γ', st', h3, h4, h5⟩
    | succ m ih =>
      intro st Γ w a hc hext h
      rw [roundsIn_succ]
      refine wpIn_mono (h ro n B0 own c1 hro h1 Γ0 Γ w0 w σ0 a hc hext) (fun e a' w' ⟨Γ', st', h3, h4, h5⟩ => ?_)
      cases e with
      | normal => exact ih st' Γ' w' a' h3 h4 h5
      | _ => exact ⟨Γ', st', h3, h4, h5⟩
  exact wpIn_loop_rounds (m + 1) (key m st Γ w a hc hext h)
def rdQ (P : Program) (N base : Nat) [Mix P] (x : LCode) (Q : Exit → St → Prop) : Nat → Exit → St → Prop
  | 0, .normal, _ => False
  | m + 1, .normal, st => wp P N base x st (rdQ P N base x Q m)
  | _, e, st => Q e st
theorem Sat.rd [Mix P] {x : LCode} {Q : Exit → St → Prop} (m : Nat) {st : St} (h : wp P N base x st (rdQ P N base x Q m)) : SatL P N base (.loop x) st Q := by
  have key : ∀ m st, wp P N base x st (rdQ P N base x Q m) → Sat P N base x.strip st (rdS P N base x.strip Q m) := by
    intro m
    induction m with
    | zero =>
      intro st h
      refine (Sat.of h).mono fun e st' h => ?_
      cases e with
      | normal => exact h
      | _ => exact h
    | succ m ih =>
      intro st h
      refine (Sat.of h).mono fun e st' h => ?_
      cases e with
      | normal => exact ih st' h
      | _ => exact h
  exact ⟨Sat.roundsN m (key m st h)⟩
end
end Go.Pw
set_option linter.unusedVariables false
namespace Go.Pw
open Go Go.RowKit
section
variable {P : Program} {N base : Nat} {st : St} {Q : Exit → St → Prop}
theorem Sat.rangeFuncB {f : Operand} {ps : List Nat} {la lb : LCode} {fid : FuncId} {ds : List D} (hf : evo st.env f = .c (.fnB fid ds)) (hps : ps.all (fun p => decide (p < N)) = true)
    (h : CallS P fid [.agg (ds.map .d), .c (.yd st.nx)] ((st.nx, .lp st.env .ready none (RR P N ps la lb)) :: st.σ) (st.nx + 1) fun _ σ' nx' => rangeQ st.nx st.env Q σ' nx') :
    Sat P N base (.rangeFunc f ps la lb) st Q := by
  intro ro n B0 own code hro hl Γ0 Γ w0 w σ0 a hc hext
  have hc0 := hc
  obtain ⟨qs, ca, cb, rfl, hqs, hla, hlb⟩ := low_rangeFunc hl
  have hro' := hro rfl
  subst hro'
  have hfr := hc.ev f
  rw [hf] at hfr
  obtain ⟨bs, hbl, hbs, hfu⟩ : ∃ us : Array Value, us.size = ds.length ∧ (∀ (j : Nat) d x, ds[j]? = some d → us[j]? = some x → RepD Γ.I w d x) ∧ a.eval f = .func (.func fid) #[.agg us] #[] := by
    generalize a.eval f = u at hfr ⊢
    cases hfr with | c _ _ h => exact h
  refine wpIn_rangeFunc (fun fn _ => ?_)
  let wa := w.alloc (.deferred (some []))
  have hsza : wa.heap.size = w.heap.size + 1 := by simp [wa]
  let r0 : Loop := { state := .ready, pending := none, fn, tmps := a.tmps, params := qs, assign := ca, body := cb, defers := w.heap.size }
  let w1 := wa.alloc (.loop r0)
  obtain ⟨hsta, hexta⟩ := alloc_mark (base := st.nx) hc.ok (.deferred (some []))
  have hid := hc.free st.nx (Nat.le_refl _)
  have hRR : RR P N ps la lb { r0 with state := .ready, pending := none } :=
    ⟨hc.size, hqs, fun p hp => by simpa using List.all_eq_true.1 hps p hp, own, hla, hlb⟩
  have hent : EntOk (Γ.upd st.nx wa.heap.size none) (wa.alloc (.loop r0)) st.nx wa.heap.size (.lp st.env .ready none (RR P N ps la lb)) := by
    refine ⟨fun hI => ?_, r0, heap_alloc_new' _ _, rfl, rfl, hRR, fun t => ?_⟩
    · have := hc.ok.im _ hI; omega
    · exact (hc.env t).mono (CxLe.upd _ _ _ hid) (fun k hk => by
        have := hc.ok.im k hk
        rw [heap_alloc (by omega), show wa.heap[k]? = w.heap[k]? from heap_alloc this])
  obtain ⟨hst1, hext1⟩ := alloc_ent (base := st.nx) hsta hid (Nat.le_refl _) (.loop r0) none _ hent
  have hrep : RepL (Γ.upd st.nx wa.heap.size none) w1 [.agg (ds.map .d), .c (.yd st.nx)] #[.agg bs, Value.func (.yield (w.heap.size + 1)) #[] #[]] := by
    refine ⟨by simp, fun j v u hv hu => ?_⟩
    match j with
    | 0 =>
      simp at hv hu
      subst hv; subst hu
      refine .agg _ _ (by simpa using hbl) (fun i c u hc hu => ?_)
      simp only [List.getElem?_map, Option.map_eq_some_iff] at hc
      obtain ⟨d, hd, rfl⟩ := hc
      exact (hbs i d u hd hu).mono (fun _ h => h) (fun k hk => by
        have := hc0.ok.im k hk
        rw [heap_alloc (by omega), show wa.heap[k]? = w.heap[k]? from heap_alloc this])
    | 1 =>
      simp at hv hu
      subst hv; subst hu
      exact .c _ _ ⟨wa.heap.size, upd_ρ_same, by rw [hsza]⟩
    | j + 2 => simp at hv
  have hfree1 : ∀ id, st.nx + 1 ≤ id → (Γ.upd st.nx wa.heap.size none).ρ id = none := fun id h => by
    rw [upd_ρ (by omega)]; exact hc.free id (by omega)
  have hres : (resolve a.eval (rangeCall f (w.heap.size + 1)) 0).run P w1 = .ok { target := .fn (.func fid) #[], args := #[.agg bs, .func (.yield (w.heap.size + 1)) #[] #[]] } w1 := by
    unfold resolve
    simp only [hfu, Deferred.ofValue]
    simp [Act.eval]
  have he : (Instr.enterLoop fn a.tmps qs ca cb (FW none).round).run P w = .ok (w.heap.size + 1, [mkD w.heap.size]) w1 := run_enterLoop_outer fn a.tmps qs ca cb
  have hinv : (invoke (Target.fn (.func fid) #[]) #[.agg bs, .func (.yield (w.heap.size + 1)) #[] #[]]).run P w1 = .ok (.enter fid (#[.agg bs, .func (.yield (w.heap.size + 1)) #[] #[]])) w1 := by
    unfold invoke; rw [h.1]; simp
  have hcall := h.2 _ w1 _ hst1 hfree1 hrep
  have hpost : ∀ e w', (∃ u v Γ' σ' nx', e = .returned u ∧ rangeQ st.nx st.env Q σ' nx' ∧ RepV Γ' w' v u ∧ StoreOk Γ' w' σ' ∧ Ext (st.nx + 1) (Γ.upd st.nx wa.heap.size none) w1 ((st.nx, .lp st.env .ready none (RR P N ps la lb)) :: st.σ) Γ' w' σ' ∧ (∀ id, nx' ≤ id → Γ'.ρ id = none) ∧ st.nx + 1 ≤ nx') →
      rangePost (FW none) n P (w.heap.size + 1) (Post N B0 base Γ0 w0 σ0 Q) { a with defers := [mkD w.heap.size] ++ a.defers } e w' := by
    rintro e w' ⟨u, v, Γ', σ', nx', rfl, hR, hv, hst', hext', hfree', hle'⟩
    obtain ⟨env', s, j, R, hlp, hsb, hj⟩ := rangeQ_iff hR
    obtain ⟨b, r, hb, hh, hs, hjr, _, _⟩ := lp_rec hst' hlp
    have hb1 : b = w.heap.size + 1 := by
      rw [hext'.ρ st.nx (Nat.lt_succ_self _), upd_ρ_same] at hb
      cases hb; rw [hsza]
    subst hb1
    have hend := run_endLoop (P := P) hh (by rw [hs]; exact hsb)
    let w4 := w'.putObj (w.heap.size + 1) (.loop { r with state := .exhausted })
    obtain ⟨hst4, hext4⟩ := set_lp (s' := .exhausted) (j' := r.pending) hst' hlp hb hh
    have hsub : Sub (del σ' st.nx) (set σ' st.nx (.lp env' .exhausted r.pending R)) := fun id x hx => by
      by_cases he : id = st.nx
      · subst he; rw [get_del_same] at hx; cases hx
      · rw [get_del_other he] at hx; rw [get_set_other he]; exact hx
    have hst5 : StoreOk Γ' w4 (del σ' st.nx) := hst4.sub hsub
    have hE : Ext st.nx Γ wa st.σ Γ' w4 (del σ' st.nx) := by
      have h1 := (hext1.trans (hext'.mono (Nat.le_succ _))).trans (hext4 st.nx)
      exact ⟨h1.os, h1.tape, h1.output, h1.size, h1.im, h1.new, h1.ρ, h1.κ, h1.keep, fun k hk => h1.live k (live_sub hsub hk)⟩
    have hEw : Ext st.nx Γ w st.σ Γ' w4 (del σ' st.nx) := hexta.trans hE
    have hle : CxLe Γ Γ' := ext_cxle hEw hc.free
    have hsame := hEw.same hc.ok
    have hconc : Conc N B0 base Γ' w4 ⟨st.env, del σ' st.nx, nx'⟩ { a with defers := [mkD w.heap.size] ++ a.defers } := by
      refine ⟨hc.size, fun t => (hc.env t).mono hle hsame, hst5, hfree', by have := hc.le; show base ≤ nx'; omega, ?_⟩
      obtain ⟨Ds, d1, d2, d3⟩ := hc.dfs
      have hnl : ¬ Live Γ st.σ w.heap.size := fun hl => Nat.lt_irrefl _ (hc.ok.live_lt hl)
      refine ⟨w.heap.size :: Ds, by simp [d1], ⟨List.nodup_cons.2 ⟨fun hm => ?_, d2.1⟩, Nat.le_trans d2.2 hEw.size⟩, fun D hD => ?_⟩
      · have := (Array.getElem?_eq_some_iff.1 (d3 _ hm).2.2.2).1; omega
      · rcases List.mem_cons.1 hD with rfl | hD
        · refine ⟨d2.2, fun hi => ?_, fun hlv => ?_, ?_⟩
          · rcases hE.new _ hi with h1 | h1 | h1
            · exact Nat.lt_irrefl _ (hc.ok.im _ h1)
            · omega
            · exact hnl h1
          · rcases hE.live _ hlv with h1 | h1
            · exact hnl h1
            · omega
          · rw [hE.keep _ (by omega) hnl]; exact heap_alloc_new' _ _
        · obtain ⟨d4, d5, d6, d7⟩ := d3 D hD
          have hlt : D < w.heap.size := (Array.getElem?_eq_some_iff.1 d7).1
          refine ⟨d4, fun hi => ?_, fun hlv => ?_, (hEw.keep D hlt d6).trans d7⟩
          · rcases hEw.new D hi with h1 | h1 | h1
            · exact d5 h1
            · omega
            · exact d6 h1
          · rcases hEw.live D hlv with h1 | h1
            · exact d6 h1
            · omega
    have hEx : Ext base Γ0 w0 σ0 Γ' w4 (del σ' st.nx) := hext.trans (hEw.mono hc.le)
    refine ⟨r.pending, w4, hend, ?_⟩
    rcases hj with ⟨rfl, hq⟩ | ⟨rfl, hq⟩ | ⟨k, rfl, hq⟩
    · rw [hjr]; exact ⟨Γ', _, hconc, hEx, hq⟩
    · rw [hjr]; exact wpIn_ret ⟨Γ', _, hconc, hEx, hq⟩
    · rw [hjr]; exact wpIn_exit ⟨Γ', _, hconc, hEx, hq⟩
  exact ⟨w.heap.size + 1, [mkD w.heap.size], w1, _, w1, fid, _, w1, he, hres, fun _ _ => trivial, hinv, fun h => by simp [FW, Fence.wide] at h, Calls.fw (hcall.mono hpost)⟩
theorem Sat.rfB {f : Operand} {ps : List Nat} {la lb : LCode} {fid : FuncId} {ds : List D} {env : List (Nat × V)} {σ : Store} {nx : Nat} {Q : Exit → St → Prop} (hf : evo env f = .c (.fnB fid ds)) (hps : ps.all (fun p => decide (p < N)) = true)
    (h : frNat (nx + 1) fun nx1 => CallS P fid [.agg (ds.map .d), .c (.yd nx)] ((nx, .lp env .ready none (RR P N ps la lb)) :: σ) nx1 fun _ σ' nx' => frNat nx' fun nx' => rangeQ nx env Q σ' nx') : SatL P N base (.rangeFunc f ps la lb) ⟨env, σ, nx⟩ Q := by
  simp only [frNat_eq] at h
  exact ⟨Sat.rangeFuncB (st := ⟨env, σ, nx⟩) hf hps h⟩
end
end Go.Pw
set_option linter.unusedVariables false
set_option maxHeartbeats 2000000
set_option maxRecDepth 100000
namespace Go.Pw
open Go Go.Proofs
abbrev zR (n : Nat) : Operand := .tmp n
abbrev zK (n : Int) : Operand := .const (.int .i64 n)
abbrev zB (b : Bool) : Operand := .const (.bool b)
abbrev zI (d : Nat) (o : LOp) : LIns := ⟨some d, o, none⟩
abbrev zM (d s : Nat) : LIns := ⟨some d, .mv (.tmp s), none⟩
abbrev zL (d s : Nat) : LIns := ⟨some d, .load false 1 (.tmp s), none⟩
abbrev zN (o : LOp) : LIns := ⟨none, o, none⟩
abbrev zT (d g : Nat) (o : LOp) : LIns := ⟨some d, o, some (g, true)⟩
abbrev zF (d g : Nat) (o : LOp) : LIns := ⟨some d, o, some (g, false)⟩
abbrev zC (f : Nat) (xs : List Operand) : LOp := .call (.func f) xs
abbrev zQ (o : List LIns) (c : LCode) : LCode := .seq (.region o) c
def lc6 : LCode :=
 (zQ [zI 6 (.mv (zB false))] (zQ [zM 7 1, zM 8 0, zI 9 (.bin .leq (zR 7) (zR 8)), zM 10 9, zT 11 10 (.mv (zR 0)), zT 12 10 (.mv (zR 2)), zT 13 10 (.bin .leq (zR 11) (zR 12)), zI 14 (.pick (zR 10) (zR 13) (zB false)), zM 6
 14] .ret))
theorem low6 : lowF Try.prog [] Try.f6 = some (15, lc6.strip, [.tmp 6]) := by kernel_rfl
theorem fn6 : FnOk Try.prog 6 15 lc6 [.tmp 6] := ⟨Try.call6, [], _, Try.func6, low6⟩
def lc16 : LCode :=
 (zQ [zI 2 (.boxS (zR 0)), zI 3 (.boxS (zR 1)), zI 4 (.mv (zK 0))] (.seq (zQ [zI 6 (.load true 7 (zR 2)), zI 7 (zC 53 [(zR 6)]), zM 5 7] (zQ [zM 8 5, zI 9 (.bin .neq (zR 8) (zK 0))] (.cond (zR 9) (zQ [zM 10 5, zM 4 10]
 .ret) .skip))) (.seq (zQ [zI 11 (.load true 6 (zR 3)), zI 12 (zC 54 [(zR 11)])] (.cond (zR 12) (zQ [zI 4 (.mv (zK 9))] .ret) .skip)) (.seq (.seq (.regionD [zI 13 (.load true 6 (zR 3)), zI 14 (.fld 0 (zR 2)), zI 15 (.load
 true 6 (zR 14)), zI 16 (zC 26 [(zR 13), (zR 15)]), zI 17 (.load true 6 (zR 3)), zI 18 (.eqA true [false, false, false, false, false, false] (zR 16) (zR 17))] [0, 0, 2, 7, 0, 31] [0, 1, 2, 3, 4, 5]) (.cond (zR 18) (zQ [zI
 4 (.mv (zK 2))] .ret) .skip)) (zQ [zI 4 (.mv (zK 0))] .ret)))))
theorem low16 : lowF Try.prog [2, 3] Try.f16 = some (19, lc16.strip, [.tmp 4]) := by kernel_rfl
theorem fn16 : FnOk Try.prog 16 19 lc16 [.tmp 4] := ⟨Try.call16, [2, 3], _, Try.func16, low16⟩
def lc17 : LCode :=
 (zQ [zI 2 (.boxS (zR 0)), zI 4 (.mv (zK 0))] (.seq (zQ [zI 8 (.load true 7 (zR 2)), zI 9 (zC 53 [(zR 8)]), zM 5 9] (zQ [zM 10 5, zI 11 (.bin .neq (zR 10) (zK 0))] (.cond (zR 11) (zQ [zM 12 5, zM 4 12] .ret) .skip))) (zQ
 [zI 14 (.load true 7 (zR 2)), zM 15 1, zI 16 (zC 55 [(zR 14), (zR 15)]), zM 13 16, zI 17 (.ext (zR 13) 0), zI 18 (.ext (zR 13) 1), zM 6 17, zM 7 18] (zQ [zM 19 7, zM 4 19] .ret))))
theorem low17 : lowF Try.prog [2] Try.f17 = some (20, lc17.strip, [.tmp 4]) := by kernel_rfl
theorem fn17 : FnOk Try.prog 17 20 lc17 [.tmp 4] := ⟨Try.call17, [2], _, Try.func17, low17⟩
def lc18 : LCode :=
 (zQ [zI 1 (.boxS (zR 0)), zI 2 (.mv (zB false))] (zQ [zI 6 (.load true 6 (zR 1)), zI 7 (zC 56 [(zR 6)]), zI 3 (.alloc [(.int .i64 0), (.int .i64 0), (.int .i64 0), (.int .i64 0), (.int .i64 0), (.int .i64 0)]), zN
 (.store 6 (zR 3) (zR 7))] (zQ [zI 4 (.mv (zK 1))] (.seq (zQ [zI 5 (.mv (zK 0))] (.block 0 (.loop (.seq (zQ [zM 8 5, zI 9 (.bin .lss (zR 8) (zK 3))] (.cond (zR 9) .skip (.exit 0))) (.seq (.block 1 (.seq (.regionD [zM 12
 4, zM 13 5, zI 14 (.idxA 2 3 (zR 3) (zR 13)), zI 15 (.fld 1 (zR 14)), zL 16 15, zM 17 5, zI 18 (.idxA 2 3 (zR 3) (zR 17)), zI 19 (.fld 0 (zR 18)), zL 20 19, zI 21 (.bin .sub (zR 16) (zR 20)), zI 22 (.bin .add (zR 21) (zK
 1)), zI 23 (.bin .mul (zR 12) (zR 22)), zM 4 23] [0, 0, 2, 6, 14, 0, 32, 96, 224, 510, 1022, 2047, 4095] [0, 1, 2, 3, 4, 5, 6, 7, 8, 9, 10, 11, 12]) (zQ [zM 24 4, zI 25 (.bin .gtr (zR 24) (zK 20000))] (.cond (zR 25) (zQ
 [zI 2 (.mv (zB true))] .ret) .skip)))) (.region [zM 10 5, zI 11 (.bin .add (zR 10) (zK 1)), zM 5 11])))))) (zQ [zI 2 (.mv (zB false))] .ret)))))
theorem low18 : lowF Try.prog [1] Try.f18 = some (26, lc18.strip, [.tmp 2]) := by kernel_rfl
theorem fn18 : FnOk Try.prog 18 26 lc18 [.tmp 2] := ⟨Try.call18, [1], _, Try.func18, low18⟩
def lc20 : LCode :=
 (zQ [zI 1 (.boxS (zR 0)), zI 2 (.alloc [(.int .i64 0), (.int .i64 0), (.int .i64 0), (.int .i64 0), (.int .i64 0), (.int .i64 0), (.slice none 0 0)])] (.seq (.regionD [zI 3 (.fld 0 (zR 1)), zI 4 (.load true 6 (zR 3)), zI
 5 (.lit false 163 4 []), zI 6 (.fld 6 (zR 1)), zL 7 6, zI 8 (.append false 163 4 40 (zR 5) (zR 7)), zI 9 (.build [(.int .i64 0), (.int .i64 0), (.int .i64 0), (.int .i64 0), (.int .i64 0), (.int .i64 0), (.slice none 0
 0)] [(0, 6, (zR 4)), (6, 1, (zR 8))]), zN (.store 7 (zR 2) (zR 9))] [0, 1, 0, 0, 8, 28, 63, 127] [0, 1, 2, 3, 4, 5, 6, 7]) .ret))
theorem low20 : lowF Try.prog [1] Try.f20 = some (10, lc20.strip, [.cell 2 true 7]) := by kernel_rfl
theorem fn20 : FnOk Try.prog 20 10 lc20 [.cell 2 true 7] := ⟨Try.call20, [1], _, Try.func20, low20⟩
def lc21 : LCode :=
 (zQ [zI 2 (.mv (.const (.slice none 0 0)))] (zQ [zI 3 (.lit false 73 4 []), zM 4 0, zI 5 (.append false 73 4 32 (zR 3) (zR 4)), zM 2 5] .ret))
theorem low21 : lowF Try.prog [] Try.f21 = some (6, lc21.strip, [.tmp 2]) := by kernel_rfl
theorem fn21 : FnOk Try.prog 21 6 lc21 [.tmp 2] := ⟨Try.call21, [], _, Try.func21, low21⟩
def lc22 : LCode :=
 (zQ [zI 2 (.boxS (zR 0)), zI 3 (.boxS (zR 1)), zI 4 (.mv (zB false))] (.seq (.regionD [zI 7 (.load true 6 (zR 2)), zI 8 (zC 56 [(zR 7)]), zI 9 (.load true 3 (zR 3)), zI 10 (zC 66 [(zR 9)]), zI 5 (.alloc [(.int .i64 0),
 (.int .i64 0), (.int .i64 0), (.int .i64 0), (.int .i64 0), (.int .i64 0)]), zI 6 (.alloc [(.int .i64 0), (.int .i64 0), (.int .i64 0)]), zN (.store 6 (zR 5) (zR 8)), zN (.store 3 (zR 6) (zR 10))] [0, 1, 0, 7, 0, 0, 63,
 127] [0, 1, 2, 3, 4, 5, 6, 7]) (zQ [zI 11 (.idxA 1 3 (zR 6) (zK 0)), zL 12 11, zI 13 (.idxA 2 3 (zR 5) (zK 0)), zI 14 (.fld 0 (zR 13)), zL 15 14, zI 16 (.idxA 2 3 (zR 5) (zK 0)), zI 17 (.fld 1 (zR 16)), zL 18 17, zI 19
 (zC 6 [(zR 12), (zR 15), (zR 18)]), zM 20 19, zT 21 20 (.idxA 1 3 (zR 6) (zK 1)), zT 22 20 (.load false 1 (zR 21)), zT 23 20 (.idxA 2 3 (zR 5) (zK 1)), zT 24 20 (.fld 0 (zR 23)), zT 25 20 (.load false 1 (zR 24)), zT 26
 20 (.idxA 2 3 (zR 5) (zK 1)), zT 27 20 (.fld 1 (zR 26)), zT 28 20 (.load false 1 (zR 27)), zT 29 20 (zC 6 [(zR 22), (zR 25), (zR 28)]), zI 30 (.pick (zR 20) (zR 29) (zB false)), zM 31 30, zT 32 31 (.idxA 1 3 (zR 6) (zK
 2)), zT 33 31 (.load false 1 (zR 32)), zT 34 31 (.idxA 2 3 (zR 5) (zK 2)), zT 35 31 (.fld 0 (zR 34)), zT 36 31 (.load false 1 (zR 35)), zT 37 31 (.idxA 2 3 (zR 5) (zK 2)), zT 38 31 (.fld 1 (zR 37)), zT 39 31 (.load false
 1 (zR 38)), zT 40 31 (zC 6 [(zR 33), (zR 36), (zR 39)]), zI 41 (.pick (zR 31) (zR 40) (zB false)), zM 4 41] .ret)))
theorem low22 : lowF Try.prog [2, 3] Try.f22 = some (42, lc22.strip, [.tmp 4]) := by kernel_rfl
theorem fn22 : FnOk Try.prog 22 42 lc22 [.tmp 4] := ⟨Try.call22, [2, 3], _, Try.func22, low22⟩
def lc23 : LCode :=
 (zQ [zI 4 (.mv (zB false))] (.seq (zQ [zI 5 (.mv (zK 0))] (.block 0 (.loop (.seq (zQ [zM 6 5, zM 7 0, zI 8 (.len (zR 7)), zI 9 (.bin .lss (zR 6) (zR 8))] (.cond (zR 9) .skip (.exit 0))) (.seq (.block 1 (zQ [zM 12 0, zM
 13 5, zI 14 (.idx 1 (zR 12) (zR 13)), zL 15 14, zM 16 1, zI 17 (.bin .eql (zR 15) (zR 16))] (.cond (zR 17) (zQ [zI 4 (.mv (zB true))] .ret) .skip))) (.region [zM 10 5, zI 11 (.bin .add (zR 10) (zK 1)), zM 5 11])))))) (zQ
 [zI 4 (.mv (zB false))] .ret)))
theorem low23 : lowF Try.prog [] Try.f23 = some (18, lc23.strip, [.tmp 4]) := by kernel_rfl
theorem fn23 : FnOk Try.prog 23 18 lc23 [.tmp 4] := ⟨Try.call23, [], _, Try.func23, low23⟩
def lc26 : LCode :=
 (zQ [zI 2 (.boxS (zR 0)), zI 3 (.boxS (zR 1)), zI 4 (.alloc [(.int .i64 0), (.int .i64 0), (.int .i64 0), (.int .i64 0), (.int .i64 0), (.int .i64 0)])] (.seq (.regionD [zI 7 (.load true 6 (zR 2)), zI 8 (zC 56 [(zR 7)]),
 zI 9 (.load true 6 (zR 3)), zI 10 (zC 56 [(zR 9)]), zI 5 (.alloc [(.int .i64 0), (.int .i64 0), (.int .i64 0), (.int .i64 0), (.int .i64 0), (.int .i64 0)]), zI 6 (.alloc [(.int .i64 0), (.int .i64 0), (.int .i64 0),
 (.int .i64 0), (.int .i64 0), (.int .i64 0)]), zN (.store 6 (zR 5) (zR 8)), zN (.store 6 (zR 6) (zR 10))] [0, 1, 0, 7, 0, 0, 63, 127] [0, 1, 2, 3, 4, 5, 6, 7]) (.seq (.regionD [zI 11 (.idxA 2 3 (zR 5) (zK 0)), zI 12
 (.load true 2 (zR 11)), zI 13 (.idxA 2 3 (zR 6) (zK 0)), zI 14 (.load true 2 (zR 13)), zI 15 (zC 71 [(zR 12), (zR 14)]), zI 16 (.idxA 2 3 (zR 5) (zK 1)), zI 17 (.load true 2 (zR 16)), zI 18 (.idxA 2 3 (zR 6) (zK 1)), zI
 19 (.load true 2 (zR 18)), zI 20 (zC 71 [(zR 17), (zR 19)]), zI 21 (.idxA 2 3 (zR 5) (zK 2)), zI 22 (.load true 2 (zR 21)), zI 23 (.idxA 2 3 (zR 6) (zK 2)), zI 24 (.load true 2 (zR 23)), zI 25 (zC 71 [(zR 22), (zR 24)]),
 zI 26 (.build [(.int .i64 0), (.int .i64 0), (.int .i64 0), (.int .i64 0), (.int .i64 0), (.int .i64 0)] [(0, 2, (zR 15)), (2, 2, (zR 20)), (4, 2, (zR 25))]), zI 27 (zC 70 [(zR 26)]), zN (.store 6 (zR 4) (zR 27))] [0, 1,
 0, 4, 15, 0, 32, 0, 128, 511, 0, 1024, 0, 4096, 16383, 32767, 65535, 131071] [0, 1, 2, 3, 4, 5, 6, 7, 8, 9, 10, 11, 12, 13, 14, 15, 16, 17]) .ret)))
theorem low26 : lowF Try.prog [2, 3] Try.f26 = some (28, lc26.strip, [.cell 4 true 6]) := by kernel_rfl
theorem fn26 : FnOk Try.prog 26 28 lc26 [.cell 4 true 6] := ⟨Try.call26, [2, 3], _, Try.func26, low26⟩
def lc46 : LCode :=
 (zQ [zI 0 (.alloc [(.int .i64 0), (.int .i64 0), (.int .i64 0), (.int .i64 0), (.int .i64 0), (.int .i64 0), (.slice none 0 0)])] (zQ [zI 1 (.build [(.int .i64 0), (.int .i64 0)] [(0, 1, (zK (-10))), (1, 1, (zK 10))]),
 zI 2 (.build [(.int .i64 0), (.int .i64 0)] [(0, 1, (zK (-10))), (1, 1, (zK 10))]), zI 3 (.build [(.int .i64 0), (.int .i64 0)] [(0, 1, (zK 0)), (1, 1, (zK 20))]), zI 4 (.build [(.int .i64 0), (.int .i64 0), (.int .i64
 0), (.int .i64 0), (.int .i64 0), (.int .i64 0)] [(0, 2, (zR 1)), (2, 2, (zR 2)), (4, 2, (zR 3))]), ⟨some 5, .build [(.string ⟨#[]⟩), (.int .i64 0), (.int .i64 0), (.int .i64 0)] [(0, 1, (.const (.string ⟨#[97]⟩)))],
 none⟩, zI 6 (.build [(.int .i64 0), (.int .i64 0), (.int .i64 0)] [(0, 1, (zK 6))]), ⟨some 7, .build [(.string ⟨#[]⟩), (.int .i64 0), (.int .i64 0), (.int .i64 0)] [(0, 1, (.const (.string ⟨#[98]⟩))), (1, 3, (zR 6))],
 none⟩, zI 8 (.lit false 163 4 [(zR 5), (zR 7)]), zI 9 (.build [(.int .i64 0), (.int .i64 0), (.int .i64 0), (.int .i64 0), (.int .i64 0), (.int .i64 0), (.slice none 0 0)] [(0, 6, (zR 4)), (6, 1, (zR 8))]), zN (.store 7
 (zR 0) (zR 9))] .ret))
theorem low46 : lowF Try.prog [] Try.f46 = some (10, lc46.strip, [.cell 0 true 7]) := by kernel_rfl
theorem fn46 : FnOk Try.prog 46 10 lc46 [.cell 0 true 7] := ⟨Try.call46, [], _, Try.func46, low46⟩
def lc47 : LCode :=
 (zQ [zI 0 (.alloc [(.int .i64 0), (.int .i64 0), (.int .i64 0), (.int .i64 0), (.int .i64 0), (.int .i64 0)])] (zQ [zI 1 (.build [(.int .i64 0), (.int .i64 0)] [(0, 1, (zK 0)), (1, 1, (zK 6))]), zI 2 (.build [(.int .i64
 0), (.int .i64 0)] [(0, 1, (zK 0)), (1, 1, (zK 4))]), zI 3 (.build [(.int .i64 0), (.int .i64 0), (.int .i64 0), (.int .i64 0), (.int .i64 0), (.int .i64 0)] [(0, 2, (zR 1)), (4, 2, (zR 2))]), zN (.store 6 (zR 0) (zR
 3))] .ret))
theorem low47 : lowF Try.prog [] Try.f47 = some (4, lc47.strip, [.cell 0 true 6]) := by kernel_rfl
theorem fn47 : FnOk Try.prog 47 4 lc47 [.cell 0 true 6] := ⟨Try.call47, [], _, Try.func47, low47⟩
def lc48 : LCode :=
 (zQ [zI 0 (.mv (.const (.slice none 0 0)))] (zQ [zI 1 (.build [(.int .i64 0), (.int .i64 0)] [(0, 1, (zK 5)), (1, 1, (zK 5))]), zI 2 (.build [(.int .i64 0), (.int .i64 0), (.int .i64 0), (.int .i64 0)] [(0, 1, (zK 0)),
 (1, 1, (zK 0)), (2, 2, (zR 1))]), zI 3 (.build [(.int .i64 0), (.int .i64 0)] [(0, 1, (zK 5)), (1, 1, (zK 5))]), zI 4 (.build [(.int .i64 0), (.int .i64 0), (.int .i64 0), (.int .i64 0)] [(0, 1, (zK 0)), (1, 1, (zK 1)),
 (2, 2, (zR 3))]), zI 5 (.build [(.int .i64 0), (.int .i64 0)] [(0, 1, (zK 0)), (1, 1, (zK 1))]), zI 6 (.build [(.int .i64 0), (.int .i64 0), (.int .i64 0), (.int .i64 0)] [(0, 1, (zK 1)), (1, 1, (zK 2)), (2, 2, (zR
 5))]), zI 7 (.lit false 73 4 [(zR 2), (zR 4), (zR 6)]), zM 0 7] .ret))
theorem low48 : lowF Try.prog [] Try.f48 = some (8, lc48.strip, [.tmp 0]) := by kernel_rfl
theorem fn48 : FnOk Try.prog 48 8 lc48 [.tmp 0] := ⟨Try.call48, [], _, Try.func48, low48⟩
def lc50 : LCode :=
 (zQ [zI 0 (.alloc [(.int .i64 0), (.int .i64 0), (.int .i64 0), (.int .i64 0), (.int .i64 0), (.int .i64 0)])] (zQ [zI 1 (.build [(.int .i64 0), (.int .i64 0)] [(0, 1, (zK 0)), (1, 1, (zK 4))]), zI 2 (.build [(.int .i64
 0), (.int .i64 0)] [(0, 1, (zK 3)), (1, 1, (zK 3))]), zI 3 (.build [(.int .i64 0), (.int .i64 0), (.int .i64 0), (.int .i64 0), (.int .i64 0), (.int .i64 0)] [(0, 2, (zR 1)), (4, 2, (zR 2))]), zN (.store 6 (zR 0) (zR
 3))] .ret))
theorem low50 : lowF Try.prog [] Try.f50 = some (4, lc50.strip, [.cell 0 true 6]) := by kernel_rfl
theorem fn50 : FnOk Try.prog 50 4 lc50 [.cell 0 true 6] := ⟨Try.call50, [], _, Try.func50, low50⟩
def lc51 : LCode :=
 (zQ [zI 0 (.alloc [(.int .i64 0), (.int .i64 0), (.int .i64 0), (.int .i64 0), (.int .i64 0), (.int .i64 0), (.int .i64 0)])] (zQ [zI 1 (.build [(.int .i64 0), (.int .i64 0)] [(0, 1, (zK 1)), (1, 1, (zK 3))]), zI 2
 (.build [(.int .i64 0), (.int .i64 0)] [(0, 1, (zK 0)), (1, 1, (zK 1))]), zI 3 (.build [(.int .i64 0), (.int .i64 0)] [(0, 1, (zK (-1))), (1, 1, (zK 0))]), zI 4 (.build [(.int .i64 0), (.int .i64 0), (.int .i64 0), (.int
 .i64 0), (.int .i64 0), (.int .i64 0)] [(0, 2, (zR 1)), (2, 2, (zR 2)), (4, 2, (zR 3))]), zI 5 (.build [(.int .i64 0), (.int .i64 0), (.int .i64 0), (.int .i64 0), (.int .i64 0), (.int .i64 0), (.int .i64 0)] [(0, 1, (zK
 2)), (1, 6, (zR 4))]), zN (.store 7 (zR 0) (zR 5))] .ret))
theorem low51 : lowF Try.prog [] Try.f51 = some (6, lc51.strip, [.cell 0 true 7]) := by kernel_rfl
theorem fn51 : FnOk Try.prog 51 6 lc51 [.cell 0 true 7] := ⟨Try.call51, [], _, Try.func51, low51⟩
def lc52 : LCode :=
 (zQ [zI 4 (.mv (zB false))] (.seq (zQ [zM 6 0, zI 7 (.len (zR 6)), zM 8 1, zI 9 (.len (zR 8)), zI 10 (.bin .neq (zR 7) (zR 9))] (.cond (zR 10) (zQ [zI 4 (.mv (zB false))] .ret) .skip)) (.seq (zQ [zI 5 (.mv (zK 0))]
 (.block 0 (.loop (.seq (zQ [zM 11 5, zM 12 0, zI 13 (.len (zR 12)), zI 14 (.bin .lss (zR 11) (zR 13))] (.cond (zR 14) .skip (.exit 0))) (.seq (.block 1 (.seq (.regionD [zM 17 0, zM 18 5, zI 19 (.idx 1 (zR 17) (zR 18)),
 zL 20 19, zM 21 1, zM 22 5, zI 23 (.idx 1 (zR 21) (zR 22)), zL 24 23, zI 25 (.bin .neq (zR 20) (zR 24))] [0, 0, 3, 7, 0, 0, 48, 112, 255] [0, 1, 2, 3, 4, 5, 6, 7, 8]) (.cond (zR 25) (zQ [zI 4 (.mv (zB false))] .ret)
 .skip))) (.region [zM 15 5, zI 16 (.bin .add (zR 15) (zK 1)), zM 5 16])))))) (zQ [zI 4 (.mv (zB true))] .ret))))
theorem low52 : lowF Try.prog [] Try.f52 = some (26, lc52.strip, [.tmp 4]) := by kernel_rfl
theorem fn52 : FnOk Try.prog 52 26 lc52 [.tmp 4] := ⟨Try.call52, [], _, Try.func52, low52⟩
def lc53 : LCode :=
 (zQ [zI 1 (.boxS (zR 0)), zI 2 (.mv (zK 0))] (zQ [zI 6 (.load true 7 (zR 1)), zI 7 (zC 85 [(zR 6)]), zM 5 7, zI 8 (.ext (zR 5) 0), zI 9 (.ext (zR 5) 1), zM 3 8, zM 4 9] (zQ [zM 10 4, zM 2 10] .ret)))
theorem low53 : lowF Try.prog [1] Try.f53 = some (11, lc53.strip, [.tmp 2]) := by kernel_rfl
theorem fn53 : FnOk Try.prog 53 11 lc53 [.tmp 2] := ⟨Try.call53, [1], _, Try.func53, low53⟩
def lc54 : LCode :=
 (zQ [zI 1 (.boxS (zR 0)), zI 2 (.mv (zB false))] (zQ [zI 4 (.load true 6 (zR 1)), zI 5 (zC 56 [(zR 4)]), zI 3 (.alloc [(.int .i64 0), (.int .i64 0), (.int .i64 0), (.int .i64 0), (.int .i64 0), (.int .i64 0)]), zN
 (.store 6 (zR 3) (zR 5))] (zQ [zI 6 (.idxA 2 3 (zR 3) (zK 0)), zI 7 (.fld 0 (zR 6)), zL 8 7, zI 9 (.idxA 2 3 (zR 3) (zK 0)), zI 10 (.fld 1 (zR 9)), zL 11 10, zI 12 (.bin .gtr (zR 8) (zR 11)), zM 13 12, zF 14 13 (.idxA 2
 3 (zR 3) (zK 1)), zF 15 13 (.fld 0 (zR 14)), zF 16 13 (.load false 1 (zR 15)), zF 17 13 (.idxA 2 3 (zR 3) (zK 1)), zF 18 13 (.fld 1 (zR 17)), zF 19 13 (.load false 1 (zR 18)), zF 20 13 (.bin .gtr (zR 16) (zR 19)), zI 21
 (.pick (zR 13) (zB true) (zR 20)), zM 22 21, zF 23 22 (.idxA 2 3 (zR 3) (zK 2)), zF 24 22 (.fld 0 (zR 23)), zF 25 22 (.load false 1 (zR 24)), zF 26 22 (.idxA 2 3 (zR 3) (zK 2)), zF 27 22 (.fld 1 (zR 26)), zF 28 22 (.load
 false 1 (zR 27)), zF 29 22 (.bin .gtr (zR 25) (zR 28)), zI 30 (.pick (zR 22) (zB true) (zR 29)), zM 2 30] .ret)))
theorem low54 : lowF Try.prog [1] Try.f54 = some (31, lc54.strip, [.tmp 2]) := by kernel_rfl
theorem fn54 : FnOk Try.prog 54 31 lc54 [.tmp 2] := ⟨Try.call54, [1], _, Try.func54, low54⟩
def lc55 : LCode :=
 (zQ [zI 2 (.boxS (zR 0)), zI 4 (.mv (zK 0)), zI 5 (.mv (zK 0))] (.seq (zQ [zM 10 1, zI 11 (.len (zR 10)), zI 12 (.bin .gtr (zR 11) (zK 8))] (.cond (zR 12) (zQ [zI 4 (.mv (zK 0)), zI 5 (.mv (zK 8))] .ret) .skip)) (.seq
 (zQ [zI 6 (.mv (zK 0))] (.block 0 (.loop (.seq (zQ [zM 13 6, zM 14 1, zI 15 (.len (zR 14)), zI 16 (.bin .lss (zR 13) (zR 15))] (.cond (zR 16) .skip (.exit 0))) (.seq (.block 1 (zQ [zM 19 1, zM 20 6, zI 21 (.idx 4 (zR 19)
 (zR 20)), zI 22 (.load true 4 (zR 21)), zI 7 (.alloc [(.int .i64 0), (.int .i64 0), (.int .i64 0), (.int .i64 0)]), zN (.store 4 (zR 7) (zR 22))] (.seq (zQ [zI 23 (.fld 0 (zR 7)), zL 24 23, zI 25 (zC 6 [(zR 24), (zK 0),
 (zK 1)]), zI 26 (.un .not (zR 25))] (.cond (zR 26) (zQ [zM 27 6, zM 4 27, zI 5 (.mv (zK 15))] .ret) .skip)) (zQ [zI 28 (.fld 6 (zR 2)), zL 29 28, zI 30 (.len (zR 29)), zM 8 30, zI 9 (.mv (zK 0))] (.seq (zQ [zI 31 (.fld 0
 (zR 7)), zL 32 31, zI 33 (.bin .eql (zR 32) (zK 1))] (.cond (zR 33) (.region [zI 8 (.mv (zK 3)), zI 9 (.mv (zK (-30000)))]) .skip)) (.seq (zQ [zI 34 (.fld 1 (zR 7)), zL 35 34, zM 36 8, zI 37 (.bin .sub (zR 36) (zK 1)),
 zI 38 (zC 6 [(zR 35), (zK 0), (zR 37)]), zI 39 (.un .not (zR 38))] (.cond (zR 39) (zQ [zM 40 6, zM 4 40, zI 5 (.mv (zK 6))] .ret) .skip)) (.seq (zQ [zI 41 (.fld 2 (zR 7)), zI 42 (.fld 0 (zR 41)), zL 43 42, zM 44 9, zI 45
 (zC 6 [(zR 43), (zR 44), (zK 30000)]), zI 46 (.un .not (zR 45)), zM 47 46, zF 48 47 (.fld 2 (zR 7)), zF 49 47 (.fld 1 (zR 48)), zF 50 47 (.load false 1 (zR 49)), zF 51 47 (.mv (zR 9)), zF 52 47 (zC 6 [(zR 50), (zR 51),
 (zK 30000)]), zF 53 47 (.un .not (zR 52)), zI 54 (.pick (zR 47) (zB true) (zR 53))] (.cond (zR 54) (zQ [zM 55 6, zM 4 55, zI 5 (.mv (zK 2))] .ret) .skip)) (zQ [zI 56 (.fld 2 (zR 7)), zI 57 (.fld 0 (zR 56)), zL 58 57, zI
 59 (.fld 2 (zR 7)), zI 60 (.fld 1 (zR 59)), zL 61 60, zI 62 (.bin .gtr (zR 58) (zR 61))] (.cond (zR 62) (zQ [zM 63 6, zM 4 63, zI 5 (.mv (zK 9))] .ret) .skip))))))))) (.region [zM 17 6, zI 18 (.bin .add (zR 17) (zK 1)),
 zM 6 18])))))) (zQ [zI 4 (.mv (zK 0)), zI 5 (.mv (zK 0))] .ret))))
theorem low55 : lowF Try.prog [2] Try.f55 = some (64, lc55.strip, [.tmp 4, .tmp 5]) := by kernel_rfl
theorem fn55 : FnOk Try.prog 55 64 lc55 [.tmp 4, .tmp 5] := ⟨Try.call55, [2], _, Try.func55, low55⟩
def lc56 : LCode :=
 (zQ [zI 1 (.boxS (zR 0)), zI 2 (.alloc [(.int .i64 0), (.int .i64 0), (.int .i64 0), (.int .i64 0), (.int .i64 0), (.int .i64 0)])] (zQ [zI 3 (.fld 0 (zR 1)), zI 4 (.load true 2 (zR 3)), zI 5 (.fld 2 (zR 1)), zI 6 (.load
 true 2 (zR 5)), zI 7 (.fld 4 (zR 1)), zI 8 (.load true 2 (zR 7)), zI 9 (.build [(.int .i64 0), (.int .i64 0), (.int .i64 0), (.int .i64 0), (.int .i64 0), (.int .i64 0)] [(0, 2, (zR 4)), (2, 2, (zR 6)), (4, 2, (zR 8))]),
 zN (.store 6 (zR 2) (zR 9))] .ret))
theorem low56 : lowF Try.prog [1] Try.f56 = some (10, lc56.strip, [.cell 2 true 6]) := by kernel_rfl
theorem fn56 : FnOk Try.prog 56 10 lc56 [.cell 2 true 6] := ⟨Try.call56, [1], _, Try.func56, low56⟩
def lc66 : LCode :=
 (zQ [zI 1 (.boxS (zR 0)), zI 2 (.alloc [(.int .i64 0), (.int .i64 0), (.int .i64 0)])] (zQ [zI 3 (.fld 0 (zR 1)), zL 4 3, zI 5 (.fld 1 (zR 1)), zL 6 5, zI 7 (.fld 2 (zR 1)), zL 8 7, zI 9 (.build [(.int .i64 0), (.int
 .i64 0), (.int .i64 0)] [(0, 1, (zR 4)), (1, 1, (zR 6)), (2, 1, (zR 8))]), zN (.store 3 (zR 2) (zR 9))] .ret))
theorem low66 : lowF Try.prog [1] Try.f66 = some (10, lc66.strip, [.cell 2 true 3]) := by kernel_rfl
theorem fn66 : FnOk Try.prog 66 10 lc66 [.cell 2 true 3] := ⟨Try.call66, [1], _, Try.func66, low66⟩
def lc70 : LCode :=
 (zQ [zI 1 (.boxS (zR 0)), zI 2 (.alloc [(.int .i64 0), (.int .i64 0), (.int .i64 0), (.int .i64 0), (.int .i64 0), (.int .i64 0)])] (zQ [zI 3 (.idxA 2 3 (zR 1) (zK 0)), zI 4 (.load true 2 (zR 3)), zI 5 (.idxA 2 3 (zR 1)
 (zK 1)), zI 6 (.load true 2 (zR 5)), zI 7 (.idxA 2 3 (zR 1) (zK 2)), zI 8 (.load true 2 (zR 7)), zI 9 (.build [(.int .i64 0), (.int .i64 0), (.int .i64 0), (.int .i64 0), (.int .i64 0), (.int .i64 0)] [(0, 2, (zR 4)),
 (2, 2, (zR 6)), (4, 2, (zR 8))]), zN (.store 6 (zR 2) (zR 9))] .ret))
theorem low70 : lowF Try.prog [1] Try.f70 = some (10, lc70.strip, [.cell 2 true 6]) := by kernel_rfl
theorem fn70 : FnOk Try.prog 70 10 lc70 [.cell 2 true 6] := ⟨Try.call70, [1], _, Try.func70, low70⟩
def lc71 : LCode :=
 (zQ [zI 2 (.boxS (zR 0)), zI 3 (.boxS (zR 1)), zI 4 (.alloc [(.int .i64 0), (.int .i64 0)])] (zQ [zI 5 (.fld 0 (zR 2)), zL 6 5, zI 7 (.fld 0 (zR 3)), zL 8 7, zI 9 (.mm true [(zR 6), (zR 8)]), zI 10 (.fld 1 (zR 2)), zL 11
 10, zI 12 (.fld 1 (zR 3)), zL 13 12, zI 14 (.mm false [(zR 11), (zR 13)]), zI 15 (.build [(.int .i64 0), (.int .i64 0)] [(0, 1, (zR 9)), (1, 1, (zR 14))]), zN (.store 2 (zR 4) (zR 15))] .ret))
theorem low71 : lowF Try.prog [2, 3] Try.f71 = some (16, lc71.strip, [.cell 4 true 2]) := by kernel_rfl
theorem fn71 : FnOk Try.prog 71 16 lc71 [.cell 4 true 2] := ⟨Try.call71, [2, 3], _, Try.func71, low71⟩
def lc85 : LCode :=
 (zQ [zI 1 (.boxS (zR 0)), zI 2 (.mv (zK 0)), zI 3 (.mv (zK 0))] (zQ [zI 11 (.fld 0 (zR 1)), zI 12 (.load true 6 (zR 11)), zI 13 (zC 56 [(zR 12)]), zI 4 (.alloc [(.int .i64 0), (.int .i64 0), (.int .i64 0), (.int .i64 0),
 (.int .i64 0), (.int .i64 0)]), zN (.store 6 (zR 4) (zR 13))] (.seq (zQ [zI 5 (.mv (zK 0))] (.block 0 (.loop (.seq (zQ [zM 14 5, zI 15 (.bin .lss (zR 14) (zK 3))] (.cond (zR 15) .skip (.exit 0))) (.seq (.block 1 (zQ [zI
 6 (.mv (zK (-10000)))] (.seq (zQ [zM 18 5, zI 19 (.bin .eql (zR 18) (zK 2))] (.cond (zR 19) (.region [zI 6 (.mv (zK 0))]) .skip)) (zQ [zM 20 5, zI 21 (.idxA 2 3 (zR 4) (zR 20)), zI 22 (.fld 0 (zR 21)), zL 23 22, zM 24 6,
 zI 25 (zC 6 [(zR 23), (zR 24), (zK 10000)]), zI 26 (.un .not (zR 25)), zM 27 26, zF 28 27 (.mv (zR 5)), zF 29 27 (.idxA 2 3 (zR 4) (zR 28)), zF 30 27 (.fld 1 (zR 29)), zF 31 27 (.load false 1 (zR 30)), zF 32 27 (.mv (zR
 6)), zF 33 27 (zC 6 [(zR 31), (zR 32), (zK 10000)]), zF 34 27 (.un .not (zR 33)), zI 35 (.pick (zR 27) (zB true) (zR 34))] (.cond (zR 35) (zQ [zI 2 (.mv (zK 0)), zI 3 (.mv (zK 2))] .ret) .skip))))) (.region [zM 16 5, zI
 17 (.bin .add (zR 16) (zK 1)), zM 5 17])))))) (.seq (zQ [zI 36 (.fld 0 (zR 1)), zI 37 (.load true 6 (zR 36)), zI 38 (zC 54 [(zR 37)])] (.cond (zR 38) (zQ [zI 2 (.mv (zK 0)), zI 3 (.mv (zK 9))] .ret) .skip)) (.seq (zQ [zI
 39 (.fld 6 (zR 1)), zL 40 39, zI 41 (.len (zR 40)), zI 42 (.bin .gtr (zR 41) (zK 6))] (.cond (zR 42) (zQ [zI 2 (.mv (zK 0)), zI 3 (.mv (zK 8))] .ret) .skip)) (.seq (zQ [zI 7 (.mv (zK 0))] (.block 2 (.loop (.seq (zQ [zM
 43 7, zI 44 (.fld 6 (zR 1)), zL 45 44, zI 46 (.len (zR 45)), zI 47 (.bin .lss (zR 43) (zR 46))] (.cond (zR 47) .skip (.exit 2))) (.seq (.block 3 (.seq (zQ [zI 50 (.fld 6 (zR 1)), zL 51 50, zM 52 7, zI 53 (.idx 4 (zR 51)
 (zR 52)), zI 54 (.fld 0 (zR 53)), zL 55 54, zI 56 (zC 107 [(zR 55)]), zI 57 (.un .not (zR 56))] (.cond (zR 57) (zQ [zM 58 7, zM 2 58, zI 3 (.mv (zK 4))] .ret) .skip)) (.seq (zQ [zI 8 (.mv (zK 0))] (.block 4 (.loop (.seq
 (zQ [zM 59 8, zM 60 7, zI 61 (.bin .lss (zR 59) (zR 60))] (.cond (zR 61) .skip (.exit 4))) (.seq (.block 5 (.seq (.regionD [zI 64 (.fld 6 (zR 1)), zL 65 64, zM 66 8, zI 67 (.idx 4 (zR 65) (zR 66)), zI 68 (.fld 0 (zR
 67)), zL 69 68, zI 70 (.fld 6 (zR 1)), zL 71 70, zM 72 7, zI 73 (.idx 4 (zR 71) (zR 72)), zI 74 (.fld 0 (zR 73)), zL 75 74, zI 76 (.eqS false (zR 69) (zR 75))] [0, 1, 0, 7, 15, 31, 0, 64, 0, 448, 960, 1984, 4095] [0, 1,
 2, 3, 4, 5, 6, 7, 8, 9, 10, 11, 12]) (.cond (zR 76) (zQ [zM 77 7, zM 2 77, zI 3 (.mv (zK 5))] .ret) .skip))) (.region [zM 62 8, zI 63 (.bin .add (zR 62) (zK 1)), zM 8 63])))))) (zQ [zI 78 (.fld 6 (zR 1)), zL 79 78, zM 80
 7, zI 81 (.idx 4 (zR 79) (zR 80)), zI 82 (.fld 1 (zR 81)), zI 83 (.load true 3 (zR 82)), zI 84 (zC 66 [(zR 83)]), zI 9 (.alloc [(.int .i64 0), (.int .i64 0), (.int .i64 0)]), zN (.store 3 (zR 9) (zR 84))] (zQ [zI 10 (.mv
 (zK 0))] (.block 6 (.loop (.seq (zQ [zM 85 10, zI 86 (.bin .lss (zR 85) (zK 3))] (.cond (zR 86) .skip (.exit 6))) (.seq (.block 7 (zQ [zM 89 10, zI 90 (.idxA 1 3 (zR 9) (zR 89)), zL 91 90, zI 92 (zC 6 [(zR 91), (zK
 (-10000)), (zK 10000)]), zI 93 (.un .not (zR 92))] (.cond (zR 93) (zQ [zM 94 7, zM 2 94, zI 3 (.mv (zK 2))] .ret) .skip))) (.region [zM 87 10, zI 88 (.bin .add (zR 87) (zK 1)), zM 10 88])))))))))) (.region [zM 48 7, zI
 49 (.bin .add (zR 48) (zK 1)), zM 7 49])))))) (zQ [zI 2 (.mv (zK 0)), zI 3 (.mv (zK 0))] .ret)))))))
theorem low85 : lowF Try.prog [1] Try.f85 = some (95, lc85.strip, [.tmp 2, .tmp 3]) := by kernel_rfl
theorem fn85 : FnOk Try.prog 85 95 lc85 [.tmp 2, .tmp 3] := ⟨Try.call85, [1], _, Try.func85, low85⟩
def lc107 : LCode :=
 (zQ [zI 2 (.mv (zB false))] (.seq (zQ [zM 6 0, zI 7 (.lenS (zR 6)), zI 8 (.bin .lss (zR 7) (zK 1)), zM 9 8, zF 10 9 (.mv (zR 0)), zF 11 9 (.lenS (zR 10)), zF 12 9 (.bin .gtr (zR 11) (zK 12)), zI 13 (.pick (zR 9) (zB
 true) (zR 12))] (.cond (zR 13) (zQ [zI 2 (.mv (zB false))] .ret) .skip)) (.seq (zQ [zI 3 (.mv (zK 0))] (.block 0 (.loop (.seq (zQ [zM 14 3, zM 15 0, zI 16 (.lenS (zR 15)), zI 17 (.bin .lss (zR 14) (zR 16))] (.cond (zR
 17) .skip (.exit 0))) (.seq (.block 1 (zQ [zM 20 0, zM 21 3, zI 22 (.indexS (zR 20) (zR 21)), zM 4 22] (zQ [zM 23 4, zI 24 (.bin .geq (zR 23) (.const (.int .u8 97))), zM 25 24, zT 26 25 (.mv (zR 4)), zT 27 25 (.bin .leq
 (zR 26) (.const (.int .u8 122))), zI 28 (.pick (zR 25) (zR 27) (zB false)), zM 29 28, zF 30 29 (.mv (zR 4)), zF 31 29 (.bin .geq (zR 30) (.const (.int .u8 65))), zF 32 29 (.mv (zR 31)), zT 33 32 (.mv (zR 4)), zT 34 32
 (.bin .leq (zR 33) (.const (.int .u8 90))), zF 35 29 (.pick (zR 32) (zR 34) (zB false)), zI 36 (.pick (zR 29) (zB true) (zR 35)), zM 5 36] (zQ [zM 37 5, zI 38 (.un .not (zR 37)), zM 39 38, zT 40 39 (.mv (zR 3)), zT 41 39
 (.bin .eql (zR 40) (zK 0)), zT 42 39 (.mv (zR 41)), zF 43 42 (.mv (zR 4)), zF 44 42 (.bin .neq (zR 43) (.const (.int .u8 45))), zF 45 42 (.mv (zR 44)), zT 46 45 (.mv (zR 4)), zT 47 45 (.bin .lss (zR 46) (.const (.int .u8
 48))), zT 48 45 (.mv (zR 47)), zF 49 48 (.mv (zR 4)), zF 50 48 (.bin .gtr (zR 49) (.const (.int .u8 57))), zT 51 45 (.pick (zR 48) (zB true) (zR 50)), zF 52 42 (.pick (zR 45) (zR 51) (zB false)), zT 53 39 (.pick (zR 42)
 (zB true) (zR 52)), zI 54 (.pick (zR 39) (zR 53) (zB false))] (.cond (zR 54) (zQ [zI 2 (.mv (zB false))] .ret) .skip))))) (.region [zM 18 3, zI 19 (.bin .add (zR 18) (zK 1)), zM 3 19])))))) (zQ [zI 2 (.mv (zB true))]
 .ret))))
theorem low107 : lowF Try.prog [] Try.f107 = some (55, lc107.strip, [.tmp 2]) := by kernel_rfl
theorem fn107 : FnOk Try.prog 107 55 lc107 [.tmp 2] := ⟨Try.call107, [], _, Try.func107, low107⟩
def lc57 : LCode :=
 (zQ [zI 2 (.boxS (zR 0)), zI 3 (.boxS (zR 1)), zI 4 (.alloc [(.int .i64 0), (.int .i64 0), (.int .i64 0), (.int .i64 0), (.int .i64 0), (.int .i64 0), (.slice none 0 0), (.int .i64 0), (.int .i64 0), (.int .i64 0), (.int
 .i64 0), (.int .i64 0), (.int .i64 0)]), zI 5 (.alloc [(.int .i64 0), (.int .i64 0), (.int .i64 0), (.int .i64 0), (.int .i64 0), (.int .i64 0)]), zI 6 (.mv (zK 0))] (zQ [zI 10 (.load true 7 (zR 2)), zI 11 (zC 86 [(zR
 10)]), zM 9 11, zI 12 (.ext (zR 9) 0), zI 13 (.ext (zR 9) 1), zI 7 (.alloc [(.int .i64 0), (.int .i64 0), (.int .i64 0), (.int .i64 0), (.int .i64 0), (.int .i64 0), (.slice none 0 0), (.int .i64 0), (.int .i64 0), (.int
 .i64 0), (.int .i64 0), (.int .i64 0), (.int .i64 0)]), zN (.store 13 (zR 7) (zR 12)), zM 8 13] (.seq (.regionD [zI 14 (.load true 13 (zR 7)), zI 15 (.load true 6 (zR 3)), zI 16 (zC 87 [(zR 15)]), zM 17 8, zI 18 (.load
 true 7 (zR 2)), zI 19 (.load true 6 (zR 3)), zI 20 (zC 88 [(zR 18), (zR 19)]), zI 21 (.lit false 38 1 [(zR 17), (zR 20)]), zI 22 (zC 58 [(zR 21)]), zN (.store 13 (zR 4) (zR 14)), zN (.store 6 (zR 5) (zR 16)), zM 6 22]
 [0, 0, 2, 0, 0, 0, 54, 126, 254, 511, 1023, 2047] [0, 1, 2, 3, 4, 5, 6, 7, 8, 9, 10, 11]) .ret)))
theorem low57 : lowF Try.prog [2, 3] Try.f57 = some (23, lc57.strip, [.cell 4 true 13, .cell 5 true 6, .tmp 6]) := by kernel_rfl
theorem fn57 : FnOk Try.prog 57 23 lc57 [.cell 4 true 13, .cell 5 true 6, .tmp 6] := ⟨Try.call57, [2, 3], _, Try.func57, low57⟩
def lc58 : LCode :=
 (zQ [zI 2 (.mv (zK 0))] (.seq (zQ [zM 5 0, zI 6 (.len (zR 5)), zI 7 (.mv (zK 0))] (.block 0 (.loop (zQ [zI 8 (.bin .lss (zR 7) (zR 6))] (.seq (.cond (zR 8) .skip (.exit 0)) (.seq (.block 1 (zQ [zI 9 (.idx 1 (zR 5) (zR
 7)), zL 10 9, zM 4 10] (zQ [zM 11 4, zI 12 (.bin .neq (zR 11) (zK 0))] (.cond (zR 12) (zQ [zM 13 4, zM 2 13] .ret) .skip)))) (.region [zI 14 (.bin .add (zR 7) (zK 1)), zM 7 14]))))))) (zQ [zI 2 (.mv (zK 0))] .ret)))
theorem low58 : lowF Try.prog [] Try.f58 = some (15, lc58.strip, [.tmp 2]) := by kernel_rfl
theorem fn58 : FnOk Try.prog 58 15 lc58 [.tmp 2] := ⟨Try.call58, [], _, Try.func58, low58⟩
def lc59 : LCode :=
 (zQ [zI 2 (.boxS (zR 0)), zI 4 (.mv (zK 0))] (zQ [zI 8 (.load true 7 (zR 2)), zM 9 1, zI 10 (zC 89 [(zR 8), (zR 9)]), zM 7 10, zI 11 (.ext (zR 7) 0), zI 12 (.ext (zR 7) 1), zM 5 11, zM 6 12] (zQ [zM 13 6, zM 4 13]
 .ret)))
theorem low59 : lowF Try.prog [2] Try.f59 = some (14, lc59.strip, [.tmp 4]) := by kernel_rfl
theorem fn59 : FnOk Try.prog 59 14 lc59 [.tmp 4] := ⟨Try.call59, [2], _, Try.func59, low59⟩
def lc60 : LCode :=
 (zQ [zI 1 (.boxS (zR 0)), zI 2 (.mv (zK 0))] (zQ [zI 3 (.load true 6 (zR 1)), zI 4 (zC 91 [(zR 3)]), zI 5 (.bin .leq (zR 4) (zK 20000)), zI 6 (zC 90 [(zR 5), (zK 8)]), zM 2 6] .ret))
theorem low60 : lowF Try.prog [1] Try.f60 = some (7, lc60.strip, [.tmp 2]) := by kernel_rfl
theorem fn60 : FnOk Try.prog 60 7 lc60 [.tmp 2] := ⟨Try.call60, [1], _, Try.func60, low60⟩
def lc61 : LCode :=
 (zQ [zI 2 (.boxS (zR 0))] (zQ [zI 7 (.idxA 2 3 (zR 2) (zK 0)), zI 8 (.fld 0 (zR 7)), zL 9 8, zM 4 9] (.block 0 (.loop (.seq (zQ [zM 10 4, zI 11 (.idxA 2 3 (zR 2) (zK 0)), zI 12 (.fld 1 (zR 11)), zL 13 12, zI 14 (.bin
 .leq (zR 10) (zR 13))] (.cond (zR 14) .skip (.exit 0))) (.seq (.block 1 (zQ [zI 17 (.idxA 2 3 (zR 2) (zK 1)), zI 18 (.fld 0 (zR 17)), zL 19 18, zM 5 19] (.block 2 (.loop (.seq (zQ [zM 20 5, zI 21 (.idxA 2 3 (zR 2) (zK
 1)), zI 22 (.fld 1 (zR 21)), zL 23 22, zI 24 (.bin .leq (zR 20) (zR 23))] (.cond (zR 24) .skip (.exit 2))) (.seq (.block 3 (zQ [zI 27 (.idxA 2 3 (zR 2) (zK 2)), zI 28 (.fld 0 (zR 27)), zL 29 28, zM 6 29] (.block 4 (.loop
 (.seq (zQ [zM 30 6, zI 31 (.idxA 2 3 (zR 2) (zK 2)), zI 32 (.fld 1 (zR 31)), zL 33 32, zI 34 (.bin .leq (zR 30) (zR 33))] (.cond (zR 34) .skip (.exit 4))) (.seq (.block 5 (zQ [zM 37 1, zM 38 4, zM 39 5, zM 40 6, zI 41
 (.build [(.int .i64 0), (.int .i64 0), (.int .i64 0)] [(0, 1, (zR 38)), (1, 1, (zR 39)), (2, 1, (zR 40))]), zI 42 (.call (zR 37) [(zR 41)]), zI 43 (.un .not (zR 42))] (.cond (zR 43) .ret .skip))) (.region [zM 35 6, zI 36
 (.bin .add (zR 35) (zK 1)), zM 6 36]))))))) (.region [zM 25 5, zI 26 (.bin .add (zR 25) (zK 1)), zM 5 26]))))))) (.region [zM 15 4, zI 16 (.bin .add (zR 15) (zK 1)), zM 4 16])))))))
theorem low61 : lowF Try.prog [2] Try.f61 = some (44, lc61.strip, []) := by kernel_rfl
theorem fn61 : FnOk Try.prog 61 44 lc61 [] := ⟨Try.call61, [2], _, Try.func61, low61⟩
def lc62 : LCode :=
 (zQ [zI 6 (.mv (.const (.slice none 0 0)))] (zQ [zI 7 (.mv (.const (.slice none 0 0)))] (.seq (zQ [zM 9 1, zI 10 (.mv (zK 0))] (.block 0 (.loop (zQ [zI 11 (.bin .lss (zR 10) (zR 9))] (.seq (.cond (zR 11) .skip (.exit 0))
 (.seq (.block 1 (zQ [zM 12 10, zM 8 12] (zQ [zM 13 0, zM 14 8, zI 15 (.bin .shr (zR 13) (zR 14)), zI 16 (.bin .and (zR 15) (.const (.int .u64 1))), zI 17 (.bin .eql (zR 16) (.const (.int .u64 1))), zM 18 2, zI 19 (.eqB
 false (zR 17) (zR 18))] (.cond (zR 19) (.region [zM 20 7, zM 21 8, zI 22 (.lit false 3 1 [(zR 21)]), zI 23 (.append true 3 1 8 (zR 20) (zR 22)), zM 7 23]) .skip)))) (.region [zI 24 (.bin .add (zR 10) (zK 1)), zM 10
 24]))))))) (zQ [zM 25 7, zM 6 25] .ret))))
theorem low62 : lowF Try.prog [23] Try.f62 = some (26, lc62.strip, [.tmp 6]) := by kernel_rfl
theorem fn62 : FnOk Try.prog 62 26 lc62 [.tmp 6] := ⟨Try.call62, [23], _, Try.func62, low62⟩
def lc63 : LCode :=
 (zQ [zI 3 (.boxS (zR 0)), zI 5 (.boxS (zR 2)), zI 6 (.mv (.const (.int .u64 0)))] (zQ [zI 7 (.mv (.const (.int .u64 0)))] (.seq (zQ [zM 12 1, zI 13 (.len (zR 12)), zI 14 (.mv (zK 0))] (.block 0 (.loop (zQ [zI 15 (.bin
 .lss (zR 14) (zR 13))] (.seq (.cond (zR 15) .skip (.exit 0)) (.seq (.block 1 (zQ [zM 16 14, zI 17 (.idx 4 (zR 12) (zR 14)), zI 18 (.load true 4 (zR 17)), zI 9 (.alloc [(.int .i64 0), (.int .i64 0), (.int .i64 0), (.int
 .i64 0)]), zM 8 16, zN (.store 4 (zR 9) (zR 18))] (.seq (.regionD [zI 20 (.load true 13 (zR 3)), zI 21 (.load true 3 (zR 5)), zI 22 (zC 92 [(zR 21)]), zI 23 (.load true 4 (zR 9)), zI 24 (zC 72 [(zR 20), (zR 22), (zR
 23)]), zM 19 24, zI 25 (.ext (zR 19) 0), zI 26 (.ext (zR 19) 1), zI 10 (.alloc [(.int .i64 0), (.int .i64 0)]), zI 11 (.alloc [(.int .i64 0), (.int .i64 0)]), zN (.store 2 (zR 10) (zR 25)), zN (.store 2 (zR 11) (zR 26))]
 [0, 0, 2, 0, 15, 31, 63, 63, 0, 0, 895, 2047] [0, 1, 2, 3, 4, 5, 6, 7, 8, 9, 10, 11]) (zQ [zI 27 (.fld 0 (zR 10)), zL 28 27, zI 29 (.fld 0 (zR 11)), zL 30 29, zI 31 (.fld 1 (zR 11)), zL 32 31, zI 33 (zC 93 [(zR 28), (zR
 30), (zR 32)]), zI 34 (.un .not (zR 33))] (.cond (zR 34) (.region [zM 35 7, zM 36 8, zI 37 (.bin .shl (.const (.int .u64 1)) (zR 36)), zI 38 (.bin .or (zR 35) (zR 37)), zM 7 38]) .skip))))) (.region [zI 39 (.bin .add (zR
 14) (zK 1)), zM 14 39]))))))) (zQ [zM 40 7, zM 6 40] .ret))))
theorem low63 : lowF Try.prog [3, 5] Try.f63 = some (41, lc63.strip, [.tmp 6]) := by kernel_rfl
theorem fn63 : FnOk Try.prog 63 41 lc63 [.tmp 6] := ⟨Try.call63, [3, 5], _, Try.func63, low63⟩
def lc64 : LCode :=
 (zQ [zI 4 (.mv (zK 0))] (.seq (zQ [zM 9 0, zI 10 (.len (zR 9)), zI 11 (.mv (zK 0))] (.block 0 (.loop (zQ [zI 12 (.bin .lss (zR 11) (zR 10))] (.seq (.cond (zR 12) .skip (.exit 0)) (.seq (.block 1 (zQ [zM 13 11, zI 14
 (.idx 1 (zR 9) (zR 11)), zL 15 14, zM 5 13, zM 6 15] (.seq (zQ [zM 16 5, zM 17 1, zI 18 (.len (zR 17)), zI 19 (.bin .geq (zR 16) (zR 18))] (.cond (zR 19) (zQ [zI 4 (.mv (zK 1))] .ret) .skip)) (zQ [zM 20 1, zM 21 5, zI 22
 (.idx 1 (zR 20) (zR 21)), zL 23 22, zM 7 23] (zQ [zM 24 6, zM 25 7, zI 26 (zC 94 [(zR 24), (zR 25)]), zM 8 26] (zQ [zM 27 8, zI 28 (.bin .neq (zR 27) (zK 0))] (.cond (zR 28) (zQ [zM 29 8, zM 4 29] .ret) .skip)))))))
 (.region [zI 30 (.bin .add (zR 11) (zK 1)), zM 11 30]))))))) (.seq (zQ [zM 31 0, zI 32 (.len (zR 31)), zM 33 1, zI 34 (.len (zR 33)), zI 35 (.bin .lss (zR 32) (zR 34))] (.cond (zR 35) (zQ [zI 4 (.mv (zK (-1)))] .ret)
 .skip)) (zQ [zI 4 (.mv (zK 0))] .ret))))
theorem low64 : lowF Try.prog [] Try.f64 = some (36, lc64.strip, [.tmp 4]) := by kernel_rfl
theorem fn64 : FnOk Try.prog 64 36 lc64 [.tmp 4] := ⟨Try.call64, [], _, Try.func64, low64⟩
def lc65 : LCode :=
 (zQ [zI 1 (.boxS (zR 0)), zI 2 (.alloc [(.int .i64 0), (.int .i64 0), (.int .i64 0)])] (zQ [zI 3 (.idxA 1 3 (zR 1) (zK 0)), zL 4 3, zI 5 (.idxA 1 3 (zR 1) (zK 1)), zL 6 5, zI 7 (.idxA 1 3 (zR 1) (zK 2)), zL 8 7, zI 9
 (.build [(.int .i64 0), (.int .i64 0), (.int .i64 0)] [(0, 1, (zR 4)), (1, 1, (zR 6)), (2, 1, (zR 8))]), zN (.store 3 (zR 2) (zR 9))] .ret))
theorem low65 : lowF Try.prog [1] Try.f65 = some (10, lc65.strip, [.cell 2 true 3]) := by kernel_rfl
theorem fn65 : FnOk Try.prog 65 10 lc65 [.cell 2 true 3] := ⟨Try.call65, [1], _, Try.func65, low65⟩
def lc67 : LCode :=
 (zQ [zI 2 (.boxS (zR 0)), zI 3 (.boxS (zR 1)), zI 4 (.mv (zK 0))] (.seq (.regionD [zI 5 (.load true 7 (zR 2)), zI 6 (.fld 0 (zR 3)), zL 7 6, zI 8 (zC 59 [(zR 5), (zR 7)]), zI 9 (.fld 1 (zR 3)), zL 10 9, zI 11 (.fld 0 (zR
 3)), zL 12 11, zI 13 (.len (zR 12)), zI 14 (zC 93 [(zR 10), (zK 0), (zR 13)]), zI 15 (zC 90 [(zR 14), (zK 2)]), zI 16 (.lit false 38 1 [(zR 8), (zR 15)]), zI 17 (zC 58 [(zR 16)]), zM 4 17] [0, 0, 2, 7, 0, 16, 0, 64, 192,
 511, 1023, 2047, 4095, 8191] [0, 1, 2, 3, 4, 5, 6, 7, 8, 9, 10, 11, 12, 13]) .ret))
theorem low67 : lowF Try.prog [2, 3] Try.f67 = some (18, lc67.strip, [.tmp 4]) := by kernel_rfl
theorem fn67 : FnOk Try.prog 67 18 lc67 [.tmp 4] := ⟨Try.call67, [2, 3], _, Try.func67, low67⟩
def ra68 : LCode :=
 (.region [zI 10 (.alloc [(.int .i64 0), (.int .i64 0), (.int .i64 0)]), zN (.store 3 (zR 10) (zR 15))])
def rb68 : LCode :=
 (.block 1 (.seq (.seq (.regionD [zI 16 (.load true 13 (zR 3)), zI 17 (.fld 0 (zR 5)), zL 18 17, zI 19 (.load true 3 (zR 10)), zI 20 (zC 63 [(zR 16), (zR 18), (zR 19)]), zI 21 (zC 95 [(zR 20)]), zI 22 (.fld 1 (zR 5)), zL
 23 22, zI 24 (.bin .gtr (zR 21) (zR 23))] [0, 0, 2, 0, 15, 31, 0, 64, 255] [0, 1, 2, 3, 4, 5, 6, 7, 8]) (.cond (zR 24) (.exit 1) .skip)) (.seq (zQ [zI 25 (.load true 3 (zR 10)), zI 26 (.mv (zK 0))] (.block 2 (.loop (zQ
 [zI 27 (.bin .lss (zR 26) (zK 3))] (.seq (.cond (zR 27) .skip (.exit 2)) (.seq (.block 3 (zQ [zM 28 26, zI 29 (.index false 1 3 (zR 25) (zR 26)), zM 11 28, zM 12 29] (.seq (zQ [zL 30 9, zI 31 (.bin .eql (zR 30) (zK 0))]
 (.cond (zR 31) (.region [zM 32 11, zM 33 12, zM 34 12, zI 35 (.build [(.int .i64 0), (.int .i64 0)] [(0, 1, (zR 33)), (1, 1, (zR 34))]), zI 36 (.idxA 2 3 (zR 8) (zR 32)), zN (.store 2 (zR 36) (zR 35))]) .skip)) (.regionD
 [zM 37 11, zM 38 11, zI 39 (.idxA 2 3 (zR 8) (zR 38)), zI 40 (.fld 0 (zR 39)), zL 41 40, zM 42 12, zI 43 (.mm false [(zR 41), (zR 42)]), zM 44 11, zI 45 (.idxA 2 3 (zR 8) (zR 44)), zI 46 (.fld 1 (zR 45)), zL 47 46, zM 48
 12, zI 49 (.mm true [(zR 47), (zR 48)]), zI 50 (.build [(.int .i64 0), (.int .i64 0)] [(0, 1, (zR 43)), (1, 1, (zR 49))]), zI 51 (.idxA 2 3 (zR 8) (zR 37)), zN (.store 2 (zR 51) (zR 50))] [0, 0, 2, 6, 14, 0, 62, 0, 128,
 384, 896, 0, 3968, 8190, 16383, 32767] [0, 1, 2, 3, 4, 5, 6, 7, 8, 9, 10, 11, 12, 13, 14, 15])))) (.region [zI 52 (.bin .add (zR 26) (zK 1)), zM 26 52]))))))) (.region [zL 53 9, zI 54 (.bin .add (zR 53) (zK 1)), zN
 (.store 1 (zR 9) (zR 54))]))))
def lc68 : LCode :=
 (zQ [zI 3 (.boxS (zR 0)), zI 4 (.boxS (zR 1)), zI 5 (.boxS (zR 2)), zI 6 (.alloc [(.int .i64 0), (.int .i64 0), (.int .i64 0), (.int .i64 0), (.int .i64 0), (.int .i64 0)]), zI 7 (.mv (zK 0))] (zQ [zI 8 (.alloc [(.int
 .i64 0), (.int .i64 0), (.int .i64 0), (.int .i64 0), (.int .i64 0), (.int .i64 0)])] (zQ [zI 9 (.alloc [(.int .i64 0)]), zN (.store 1 (zR 9) (zK 0))] (.seq (zQ [zI 13 (.load true 6 (zR 4)), zI 14 (.mkfnB 61 (zR 13))]
 (.block 0 (.rangeFunc (zR 14) [15] ra68 rb68))) (.seq (.regionD [zI 55 (.load true 6 (zR 8)), zL 56 9, zN (.store 6 (zR 6) (zR 55)), zM 7 56] [0, 0, 1, 7] [0, 1, 2, 3]) .ret)))))
theorem low68 : lowF Try.prog [3, 4, 5] Try.f68 = some (57, lc68.strip, [.cell 6 true 6, .tmp 7]) := by kernel_rfl
theorem fn68 : FnOk Try.prog 68 57 lc68 [.cell 6 true 6, .tmp 7] := ⟨Try.call68, [3, 4, 5], _, Try.func68, low68⟩
def lc69 : LCode :=
 (zQ [zI 1 (.boxS (zR 0)), zI 2 (.alloc [(.int .i64 0), (.int .i64 0), (.int .i64 0), (.int .i64 0), (.int .i64 0), (.int .i64 0)])] (zQ [zI 3 (.idxA 2 3 (zR 1) (zK 0)), zI 4 (.load true 2 (zR 3)), zI 5 (.idxA 2 3 (zR 1)
 (zK 1)), zI 6 (.load true 2 (zR 5)), zI 7 (.idxA 2 3 (zR 1) (zK 2)), zI 8 (.load true 2 (zR 7)), zI 9 (.build [(.int .i64 0), (.int .i64 0), (.int .i64 0), (.int .i64 0), (.int .i64 0), (.int .i64 0)] [(0, 2, (zR 4)),
 (2, 2, (zR 6)), (4, 2, (zR 8))]), zN (.store 6 (zR 2) (zR 9))] .ret))
theorem low69 : lowF Try.prog [1] Try.f69 = some (10, lc69.strip, [.cell 2 true 6]) := by kernel_rfl
theorem fn69 : FnOk Try.prog 69 10 lc69 [.cell 2 true 6] := ⟨Try.call69, [1], _, Try.func69, low69⟩
def lc72 : LCode :=
 (zQ [zI 3 (.boxS (zR 0)), zI 4 (.boxS (zR 1)), zI 5 (.boxS (zR 2)), zI 6 (.alloc [(.int .i64 0), (.int .i64 0)]), zI 7 (.alloc [(.int .i64 0), (.int .i64 0)])] (.seq (zQ [zI 9 (.fld 0 (zR 5)), zL 10 9, zI 11 (.bin .eql
 (zR 10) (zK 1))] (.cond (zR 11) (.seq (.regionD [zI 12 (.fld 1 (zR 5)), zL 13 12, zI 14 (.idxA 2 3 (zR 4) (zR 13)), zI 15 (.load true 2 (zR 14)), zI 16 (.fld 2 (zR 5)), zI 17 (.load true 2 (zR 16)), zN (.store 2 (zR 6)
 (zR 15)), zN (.store 2 (zR 7) (zR 17))] [0, 1, 3, 7, 0, 16, 15, 127] [0, 1, 2, 3, 4, 5, 6, 7]) .ret) .skip)) (zQ [zI 18 (.fld 2 (zR 5)), zI 19 (.load true 2 (zR 18)), zI 8 (.alloc [(.int .i64 0), (.int .i64 0)]), zN
 (.store 2 (zR 8) (zR 19))] (.seq (.regionD [zI 20 (.load true 6 (zR 4)), zI 21 (.fld 0 (zR 3)), zI 22 (.fld 6 (zR 21)), zL 23 22, zI 24 (.fld 1 (zR 5)), zL 25 24, zI 26 (.idx 4 (zR 23) (zR 25)), zI 27 (.fld 1 (zR 26)),
 zI 28 (.load true 3 (zR 27)), zI 29 (zC 97 [(zR 28)]), zI 30 (zC 96 [(zR 20), (zR 29)]), zI 31 (.fld 0 (zR 8)), zL 32 31, zI 33 (.fld 0 (zR 8)), zL 34 33, zI 35 (.bin .mul (zR 32) (zR 34)), zI 36 (.fld 1 (zR 8)), zL 37
 36, zI 38 (.fld 1 (zR 8)), zL 39 38, zI 40 (.bin .mul (zR 37) (zR 39)), zI 41 (.build [(.int .i64 0), (.int .i64 0)] [(0, 1, (zR 35)), (1, 1, (zR 40))]), zN (.store 2 (zR 6) (zR 30)), zN (.store 2 (zR 7) (zR 41))] [0, 0,
 2, 6, 0, 16, 62, 126, 254, 510, 1023, 0, 2048, 0, 8192, 30720, 0, 65536, 0, 262144, 983040, 2095104, 2047, 8388607] [0, 1, 2, 3, 4, 5, 6, 7, 8, 9, 10, 11, 12, 13, 14, 15, 16, 17, 18, 19, 20, 21, 22, 23]) .ret))))
theorem low72 : lowF Try.prog [3, 4, 5] Try.f72 = some (42, lc72.strip, [.cell 6 true 2, .cell 7 true 2]) := by kernel_rfl
theorem fn72 : FnOk Try.prog 72 42 lc72 [.cell 6 true 2, .cell 7 true 2] := ⟨Try.call72, [3, 4, 5], _, Try.func72, low72⟩
def lc86 : LCode :=
 (zQ [zI 1 (.boxS (zR 0)), zI 2 (.alloc [(.int .i64 0), (.int .i64 0), (.int .i64 0), (.int .i64 0), (.int .i64 0), (.int .i64 0), (.slice none 0 0), (.int .i64 0), (.int .i64 0), (.int .i64 0), (.int .i64 0), (.int .i64
 0), (.int .i64 0)]), zI 3 (.mv (zK 0))] (zQ [zI 7 (.load true 7 (zR 1)), zI 8 (zC 108 [(zR 7)]), zM 6 8, zI 9 (.ext (zR 6) 0), zI 10 (.ext (zR 6) 1), zM 4 9, zM 5 10] (.seq (.regionD [zI 11 (.load true 7 (zR 1)), zI 12
 (.fld 0 (zR 1)), zI 13 (.load true 6 (zR 12)), zI 14 (zC 87 [(zR 13)]), zI 15 (.build [(.int .i64 0), (.int .i64 0), (.int .i64 0), (.int .i64 0), (.int .i64 0), (.int .i64 0), (.slice none 0 0), (.int .i64 0), (.int
 .i64 0), (.int .i64 0), (.int .i64 0), (.int .i64 0), (.int .i64 0)] [(0, 7, (zR 11)), (7, 6, (zR 14))]), zM 16 5, zN (.store 13 (zR 2) (zR 15)), zM 3 16] [0, 0, 2, 6, 15, 0, 31, 127] [0, 1, 2, 3, 4, 5, 6, 7]) .ret)))
theorem low86 : lowF Try.prog [1] Try.f86 = some (17, lc86.strip, [.cell 2 true 13, .tmp 3]) := by kernel_rfl
theorem fn86 : FnOk Try.prog 86 17 lc86 [.cell 2 true 13, .tmp 3] := ⟨Try.call86, [1], _, Try.func86, low86⟩
def lc87 : LCode :=
 (zQ [zI 1 (.boxS (zR 0)), zI 2 (.alloc [(.int .i64 0), (.int .i64 0), (.int .i64 0), (.int .i64 0), (.int .i64 0), (.int .i64 0)])] (zQ [zI 3 (.fld 0 (zR 1)), zI 4 (.load true 2 (zR 3)), zI 5 (.fld 2 (zR 1)), zI 6 (.load
 true 2 (zR 5)), zI 7 (.fld 4 (zR 1)), zI 8 (.load true 2 (zR 7)), zI 9 (.build [(.int .i64 0), (.int .i64 0), (.int .i64 0), (.int .i64 0), (.int .i64 0), (.int .i64 0)] [(0, 2, (zR 4)), (2, 2, (zR 6)), (4, 2, (zR 8))]),
 zN (.store 6 (zR 2) (zR 9))] .ret))
theorem low87 : lowF Try.prog [1] Try.f87 = some (10, lc87.strip, [.cell 2 true 6]) := by kernel_rfl
theorem fn87 : FnOk Try.prog 87 10 lc87 [.cell 2 true 6] := ⟨Try.call87, [1], _, Try.func87, low87⟩
def lc88 : LCode :=
 (zQ [zI 2 (.boxS (zR 0)), zI 3 (.boxS (zR 1)), zI 4 (.mv (zK 0))] (zQ [zI 8 (.load true 7 (zR 2)), zI 9 (zC 86 [(zR 8)]), zM 7 9, zI 10 (.ext (zR 7) 0), zI 11 (.ext (zR 7) 1), zI 5 (.alloc [(.int .i64 0), (.int .i64 0),
 (.int .i64 0), (.int .i64 0), (.int .i64 0), (.int .i64 0), (.slice none 0 0), (.int .i64 0), (.int .i64 0), (.int .i64 0), (.int .i64 0), (.int .i64 0), (.int .i64 0)]), zN (.store 13 (zR 5) (zR 10)), zM 6 11] (.seq
 (.regionD [zM 12 6, zI 13 (.load true 6 (zR 3)), zI 14 (zC 87 [(zR 13)]), zI 15 (zC 109 [(zR 14)]), zI 16 (zC 90 [(zR 15), (zK 9)]), zI 17 (.fld 7 (zR 5)), zI 18 (.load true 6 (zR 17)), zI 19 (.load true 6 (zR 3)), zI 20
 (zC 87 [(zR 19)]), zI 21 (zC 110 [(zR 18), (zR 20)]), zI 22 (zC 90 [(zR 21), (zK 2)]), zI 23 (.lit false 38 1 [(zR 12), (zR 16), (zR 22)]), zI 24 (zC 58 [(zR 23)]), zM 4 24] [0, 0, 2, 6, 14, 0, 32, 0, 158, 510, 1022,
 2047, 4095, 8191] [0, 1, 2, 3, 4, 5, 6, 7, 8, 9, 10, 11, 12, 13]) .ret)))
theorem low88 : lowF Try.prog [2, 3] Try.f88 = some (25, lc88.strip, [.tmp 4]) := by kernel_rfl
theorem fn88 : FnOk Try.prog 88 25 lc88 [.tmp 4] := ⟨Try.call88, [2, 3], _, Try.func88, low88⟩
def lc90 : LCode :=
 (zQ [zI 4 (.mv (zK 0))] (.seq (zQ [zM 5 0] (.cond (zR 5) (zQ [zI 4 (.mv (zK 0))] .ret) .skip)) (zQ [zM 6 1, zM 4 6] .ret)))
theorem low90 : lowF Try.prog [] Try.f90 = some (7, lc90.strip, [.tmp 4]) := by kernel_rfl
theorem fn90 : FnOk Try.prog 90 7 lc90 [.tmp 4] := ⟨Try.call90, [], _, Try.func90, low90⟩
def lc91 : LCode :=
 (zQ [zI 1 (.boxS (zR 0)), zI 2 (.mv (zK 0))] (zQ [zI 3 (.mv (zK 1))] (.seq (zQ [zI 6 (.load true 6 (zR 1)), zI 7 (.mv (zK 0))] (.block 0 (.loop (zQ [zI 8 (.bin .lss (zR 7) (zK 3))] (.seq (.cond (zR 8) .skip (.exit 0))
 (.seq (.block 1 (zQ [zI 9 (.index true 2 3 (zR 6) (zR 7)), zI 5 (.alloc [(.int .i64 0), (.int .i64 0)]), zN (.store 2 (zR 5) (zR 9))] (.region [zM 10 3, zI 11 (.fld 1 (zR 5)), zL 12 11, zI 13 (.fld 0 (zR 5)), zL 14 13,
 zI 15 (.bin .sub (zR 12) (zR 14)), zI 16 (.bin .add (zR 15) (zK 1)), zI 17 (.bin .mul (zR 10) (zR 16)), zM 3 17]))) (.region [zI 18 (.bin .add (zR 7) (zK 1)), zM 7 18]))))))) (zQ [zM 19 3, zM 2 19] .ret))))
theorem low91 : lowF Try.prog [1] Try.f91 = some (20, lc91.strip, [.tmp 2]) := by kernel_rfl
theorem fn91 : FnOk Try.prog 91 20 lc91 [.tmp 2] := ⟨Try.call91, [1], _, Try.func91, low91⟩
def lc92 : LCode :=
 (zQ [zI 1 (.boxS (zR 0)), zI 2 (.alloc [(.int .i64 0), (.int .i64 0), (.int .i64 0), (.int .i64 0), (.int .i64 0), (.int .i64 0)])] (zQ [zI 3 (.alloc [(.int .i64 0), (.int .i64 0), (.int .i64 0), (.int .i64 0), (.int
 .i64 0), (.int .i64 0)])] (.seq (zQ [zI 6 (.load true 3 (zR 1)), zI 7 (.mv (zK 0))] (.block 0 (.loop (zQ [zI 8 (.bin .lss (zR 7) (zK 3))] (.seq (.cond (zR 8) .skip (.exit 0)) (.seq (.block 1 (zQ [zM 9 7, zI 10 (.index
 false 1 3 (zR 6) (zR 7)), zM 4 9, zM 5 10] (.region [zM 11 4, zM 12 5, zM 13 5, zI 14 (.build [(.int .i64 0), (.int .i64 0)] [(0, 1, (zR 12)), (1, 1, (zR 13))]), zI 15 (.idxA 2 3 (zR 3) (zR 11)), zN (.store 2 (zR 15) (zR
 14))]))) (.region [zI 16 (.bin .add (zR 7) (zK 1)), zM 7 16]))))))) (zQ [zI 17 (.load true 6 (zR 3)), zN (.store 6 (zR 2) (zR 17))] .ret))))
theorem low92 : lowF Try.prog [1] Try.f92 = some (18, lc92.strip, [.cell 2 true 6]) := by kernel_rfl
theorem fn92 : FnOk Try.prog 92 18 lc92 [.cell 2 true 6] := ⟨Try.call92, [1], _, Try.func92, low92⟩
def lc93 : LCode :=
 (zQ [zI 6 (.mv (zB false))] (zQ [zM 7 1, zM 8 0, zI 9 (.bin .leq (zR 7) (zR 8)), zM 10 9, zT 11 10 (.mv (zR 0)), zT 12 10 (.mv (zR 2)), zT 13 10 (.bin .leq (zR 11) (zR 12)), zI 14 (.pick (zR 10) (zR 13) (zB false)), zM 6
 14] .ret))
theorem low93 : lowF Try.prog [] Try.f93 = some (15, lc93.strip, [.tmp 6]) := by kernel_rfl
theorem fn93 : FnOk Try.prog 93 15 lc93 [.tmp 6] := ⟨Try.call93, [], _, Try.func93, low93⟩
def lc94 : LCode :=
 (zQ [zI 4 (.mv (zK 0))] (zQ [zM 7 0, zI 8 (zC 114 [(zR 7)]), zM 5 8] (zQ [zM 9 1, zI 10 (zC 114 [(zR 9)]), zM 6 10] (.seq (zQ [zM 11 5] (.cond (zR 11) (.seq (zQ [zM 12 6] (.cond (zR 12) (zQ [zI 4 (.mv (zK 0))] .ret)
 .skip)) (zQ [zI 4 (.mv (zK (-1)))] .ret)) .skip)) (.seq (zQ [zM 13 6] (.cond (zR 13) (zQ [zI 4 (.mv (zK 1))] .ret) .skip)) (.seq (zQ [zM 14 0, zM 15 1, zI 16 (.bin .lss (zR 14) (zR 15))] (.cond (zR 16) (zQ [zI 4 (.mv (zK
 (-1)))] .ret) .skip)) (.seq (zQ [zM 17 0, zM 18 1, zI 19 (.bin .gtr (zR 17) (zR 18))] (.cond (zR 19) (zQ [zI 4 (.mv (zK 1))] .ret) .skip)) (zQ [zI 4 (.mv (zK 0))] .ret))))))))
theorem low94 : lowF Try.prog [] Try.f94 = some (20, lc94.strip, [.tmp 4]) := by kernel_rfl
theorem fn94 : FnOk Try.prog 94 20 lc94 [.tmp 4] := ⟨Try.call94, [], _, Try.func94, low94⟩
def lc95 : LCode :=
 (zQ [zI 2 (.mv (zK 0))] (.seq (.cond (zB false) (zQ [zM 3 0, zI 4 (.conv .u32 (zR 3)), zI 5 (zC 115 [(zR 4)]), zM 2 5] .ret) .skip) (zQ [zM 6 0, zI 7 (zC 116 [(zR 6)]), zM 2 7] .ret)))
theorem low95 : lowF Try.prog [] Try.f95 = some (8, lc95.strip, [.tmp 2]) := by kernel_rfl
theorem fn95 : FnOk Try.prog 95 8 lc95 [.tmp 2] := ⟨Try.call95, [], _, Try.func95, low95⟩
def lc96 : LCode :=
 (zQ [zI 2 (.boxS (zR 0)), zI 3 (.boxS (zR 1)), zI 4 (.alloc [(.int .i64 0), (.int .i64 0)])] (zQ [zI 5 (.alloc [(.int .i64 0), (.int .i64 0)])] (.seq (zQ [zI 10 (.load true 6 (zR 2)), zI 11 (.mv (zK 0))] (.block 0 (.loop
 (zQ [zI 12 (.bin .lss (zR 11) (zK 3))] (.seq (.cond (zR 12) .skip (.exit 0)) (.seq (.block 1 (zQ [zM 13 11, zI 14 (.index true 2 3 (zR 10) (zR 11)), zI 7 (.alloc [(.int .i64 0), (.int .i64 0)]), zM 6 13, zN (.store 2 (zR
 7) (zR 14))] (.seq (.regionD [zI 15 (.fld 0 (zR 7)), zL 16 15, zM 17 6, zI 18 (.idxA 1 3 (zR 3) (zR 17)), zL 19 18, zI 20 (.bin .sub (zR 16) (zR 19)), zM 21 6, zI 22 (.idxA 1 3 (zR 3) (zR 21)), zL 23 22, zI 24 (.fld 1
 (zR 7)), zL 25 24, zI 26 (.bin .sub (zR 23) (zR 25)), zI 27 (.mm true [(zR 20), (zR 26), (zK 0)]), zM 8 27] [0, 1, 0, 4, 12, 31, 0, 64, 192, 0, 512, 1984, 4095, 8191] [0, 1, 2, 3, 4, 5, 6, 7, 8, 9, 10, 11, 12, 13]) (.seq
 (.regionD [zI 28 (.fld 1 (zR 7)), zL 29 28, zM 30 6, zI 31 (.idxA 1 3 (zR 3) (zR 30)), zL 32 31, zI 33 (.bin .sub (zR 29) (zR 32)), zM 34 6, zI 35 (.idxA 1 3 (zR 3) (zR 34)), zL 36 35, zI 37 (.fld 0 (zR 7)), zL 38 37, zI
 39 (.bin .sub (zR 36) (zR 38)), zI 40 (.mm true [(zR 33), (zR 39)]), zM 9 40] [0, 1, 0, 4, 12, 31, 0, 64, 192, 0, 512, 1984, 4095, 8191] [0, 1, 2, 3, 4, 5, 6, 7, 8, 9, 10, 11, 12, 13]) (.region [zI 41 (.fld 0 (zR 5)), zL
 42 41, zM 43 8, zM 44 8, zI 45 (.bin .mul (zR 43) (zR 44)), zI 46 (.bin .add (zR 42) (zR 45)), zI 47 (.fld 1 (zR 5)), zL 48 47, zM 49 9, zM 50 9, zI 51 (.bin .mul (zR 49) (zR 50)), zI 52 (.bin .add (zR 48) (zR 51)), zI
 53 (.fld 0 (zR 5)), zN (.store 1 (zR 53) (zR 46)), zI 54 (.fld 1 (zR 5)), zN (.store 1 (zR 54) (zR 52))]))))) (.region [zI 55 (.bin .add (zR 11) (zK 1)), zM 11 55]))))))) (zQ [zI 56 (.load true 2 (zR 5)), zN (.store 2
 (zR 4) (zR 56))] .ret))))
theorem low96 : lowF Try.prog [2, 3] Try.f96 = some (57, lc96.strip, [.cell 4 true 2]) := by kernel_rfl
theorem fn96 : FnOk Try.prog 96 57 lc96 [.cell 4 true 2] := ⟨Try.call96, [2, 3], _, Try.func96, low96⟩
def lc97 : LCode :=
 (zQ [zI 1 (.boxS (zR 0)), zI 2 (.alloc [(.int .i64 0), (.int .i64 0), (.int .i64 0)])] (zQ [zI 3 (.fld 0 (zR 1)), zL 4 3, zI 5 (.fld 1 (zR 1)), zL 6 5, zI 7 (.fld 2 (zR 1)), zL 8 7, zI 9 (.build [(.int .i64 0), (.int
 .i64 0), (.int .i64 0)] [(0, 1, (zR 4)), (1, 1, (zR 6)), (2, 1, (zR 8))]), zN (.store 3 (zR 2) (zR 9))] .ret))
theorem low97 : lowF Try.prog [1] Try.f97 = some (10, lc97.strip, [.cell 2 true 3]) := by kernel_rfl
theorem fn97 : FnOk Try.prog 97 10 lc97 [.cell 2 true 3] := ⟨Try.call97, [1], _, Try.func97, low97⟩
def lc105 : LCode :=
 (zQ [zI 1 (.boxS (zR 0)), zI 2 (.mv (zK 0))] (zQ [zI 4 (.fld 1 (zR 1)), zI 5 (.load true 6 (zR 4)), zI 6 (zC 87 [(zR 5)]), zI 3 (.alloc [(.int .i64 0), (.int .i64 0), (.int .i64 0), (.int .i64 0), (.int .i64 0), (.int
 .i64 0)]), zN (.store 6 (zR 3) (zR 6))] (.seq (.regionD [zI 7 (.fld 0 (zR 1)), zL 8 7, zI 9 (zC 93 [(zR 8), (zK 0), (zK 1000)]), zM 10 9, zT 11 10 (.load true 6 (zR 3)), zT 12 10 (zC 123 [(zR 11), (zK 100)]), zI 13
 (.pick (zR 10) (zR 12) (zB false)), zI 14 (zC 90 [(zR 13), (zK 2)]), zI 15 (.load true 6 (zR 3)), zI 16 (zC 109 [(zR 15)]), zI 17 (zC 90 [(zR 16), (zK 9)]), zI 18 (.lit false 38 1 [(zR 14), (zR 17)]), zI 19 (zC 58 [(zR
 18)]), zM 2 19] [0, 1, 3, 7, 15, 31, 63, 127, 0, 511, 1023, 2047, 4095, 8191] [0, 1, 2, 3, 4, 5, 6, 7, 8, 9, 10, 11, 12, 13]) .ret)))
theorem low105 : lowF Try.prog [1] Try.f105 = some (20, lc105.strip, [.tmp 2]) := by kernel_rfl
theorem fn105 : FnOk Try.prog 105 20 lc105 [.tmp 2] := ⟨Try.call105, [1], _, Try.func105, low105⟩
def lc106 : LCode :=
 (zQ [zI 2 (.box (zR 0)), zI 3 (.boxS (zR 1)), zI 4 (.alloc [(.int .i64 0), (.int .i64 0), (.int .i64 0), (.int .i64 0), (.int .i64 0), (.int .i64 0)]), zI 5 (.mv (zB false))] (.seq (zQ [zI 8 (.load true 6 (zR 3)), zI 9
 (.mv (zK 0))] (.block 0 (.loop (zQ [zI 10 (.bin .lss (zR 9) (zK 3))] (.seq (.cond (zR 10) .skip (.exit 0)) (.seq (.block 1 (zQ [zM 11 9, zI 12 (.index true 2 3 (zR 8) (zR 9)), zI 7 (.alloc [(.int .i64 0), (.int .i64
 0)]), zM 6 11, zN (.store 2 (zR 7) (zR 12))] (.regionD [zM 13 6, zM 14 6, zI 15 (.idxA 2 3 (zR 2) (zR 14)), zI 16 (.fld 0 (zR 15)), zL 17 16, zI 18 (.fld 0 (zR 7)), zL 19 18, zI 20 (.mm true [(zR 17), (zR 19)]), zM 21 6,
 zI 22 (.idxA 2 3 (zR 2) (zR 21)), zI 23 (.fld 1 (zR 22)), zL 24 23, zI 25 (.fld 1 (zR 7)), zL 26 25, zI 27 (.mm false [(zR 24), (zR 26)]), zI 28 (.build [(.int .i64 0), (.int .i64 0)] [(0, 1, (zR 20)), (1, 1, (zR 27))]),
 zI 29 (.idxA 2 3 (zR 2) (zR 13)), zN (.store 2 (zR 29) (zR 28))] [0, 0, 2, 6, 14, 0, 32, 126, 0, 256, 768, 1792, 0, 4096, 16128, 32766, 65535, 131071] [0, 1, 2, 3, 4, 5, 6, 7, 8, 9, 10, 11, 12, 13, 14, 15, 16, 17])))
 (.region [zI 30 (.bin .add (zR 9) (zK 1)), zM 9 30]))))))) (.seq (.regionD [zI 31 (.load true 6 (zR 2)), zI 32 (.load true 6 (zR 2)), zI 33 (zC 109 [(zR 32)]), zN (.store 6 (zR 4) (zR 31)), zM 5 33] [0, 0, 2, 7, 15] [0,
 1, 2, 3, 4]) .ret)))
theorem low106 : lowF Try.prog [3] Try.f106 = some (34, lc106.strip, [.cell 4 true 6, .tmp 5]) := by kernel_rfl
theorem fn106 : FnOk Try.prog 106 34 lc106 [.cell 4 true 6, .tmp 5] := ⟨Try.call106, [3], _, Try.func106, low106⟩
def lc109 : LCode :=
 (zQ [zI 1 (.boxS (zR 0)), zI 2 (.mv (zB false))] (zQ [zI 3 (.slcP 2 3 (zR 1)), zI 4 (zC 132 [(zR 3), (.func 133)]), zI 5 (.un .not (zR 4)), zM 2 5] .ret))
theorem low109 : lowF Try.prog [1] Try.f109 = some (6, lc109.strip, [.tmp 2]) := by kernel_rfl
theorem fn109 : FnOk Try.prog 109 6 lc109 [.tmp 2] := ⟨Try.call109, [1], _, Try.func109, low109⟩
def lc110 : LCode :=
 (zQ [zI 2 (.boxS (zR 0)), zI 3 (.boxS (zR 1)), zI 4 (.mv (zB false))] (.seq (zQ [zI 7 (.load true 6 (zR 2)), zI 8 (.mv (zK 0))] (.block 0 (.loop (zQ [zI 9 (.bin .lss (zR 8) (zK 3))] (.seq (.cond (zR 9) .skip (.exit 0))
 (.seq (.block 1 (zQ [zM 10 8, zI 11 (.index true 2 3 (zR 7) (zR 8)), zI 6 (.alloc [(.int .i64 0), (.int .i64 0)]), zM 5 10, zN (.store 2 (zR 6) (zR 11))] (.seq (.regionD [zM 12 5, zI 13 (.idxA 2 3 (zR 3) (zR 12)), zI 14
 (.fld 0 (zR 13)), zL 15 14, zI 16 (.fld 0 (zR 6)), zL 17 16, zI 18 (.bin .lss (zR 15) (zR 17)), zM 19 18, zF 20 19 (.mv (zR 5)), zF 21 19 (.idxA 2 3 (zR 3) (zR 20)), zF 22 19 (.fld 1 (zR 21)), zF 23 19 (.load false 1 (zR
 22)), zF 24 19 (.fld 1 (zR 6)), zF 25 19 (.load false 1 (zR 24)), zF 26 19 (.bin .gtr (zR 23) (zR 25)), zI 27 (.pick (zR 19) (zB true) (zR 26))] [0, 1, 3, 7, 0, 16, 63, 127, 255, 511, 1023, 2047, 255, 4351, 16383, 32767]
 [0, 1, 2, 3, 4, 5, 6, 7, 8, 9, 10, 11, 12, 13, 14, 15]) (.cond (zR 27) (zQ [zI 4 (.mv (zB false))] .ret) .skip)))) (.region [zI 28 (.bin .add (zR 8) (zK 1)), zM 8 28]))))))) (zQ [zI 4 (.mv (zB true))] .ret)))
theorem low110 : lowF Try.prog [2, 3] Try.f110 = some (29, lc110.strip, [.tmp 4]) := by kernel_rfl
theorem fn110 : FnOk Try.prog 110 29 lc110 [.tmp 4] := ⟨Try.call110, [2, 3], _, Try.func110, low110⟩
def lc111 : LCode :=
 (zQ [zI 4 (.mv (zK 0)), zI 5 (.mv (zK 0))] (.seq (zQ [zM 9 0, zI 10 (.len (zR 9)), zI 11 (.mv (zK 0))] (.block 0 (.loop (zQ [zI 12 (.bin .lss (zR 11) (zR 10))] (.seq (.cond (zR 12) .skip (.exit 0)) (.seq (.block 1 (zQ
 [zM 13 11, zI 14 (.idx 4 (zR 9) (zR 11)), zI 15 (.load true 4 (zR 14)), zI 7 (.alloc [(.int .i64 0), (.int .i64 0), (.int .i64 0), (.int .i64 0)]), zM 6 13, zN (.store 4 (zR 7) (zR 15))] (zQ [zM 16 1, zM 17 6, zI 18
 (.load true 4 (zR 7)), zI 19 (.call (zR 16) [(zR 17), (zR 18)]), zM 8 19] (zQ [zM 20 8, zI 21 (.bin .neq (zR 20) (zK 0))] (.cond (zR 21) (zQ [zM 22 6, zM 23 8, zM 4 22, zM 5 23] .ret) .skip))))) (.region [zI 24 (.bin
 .add (zR 11) (zK 1)), zM 11 24]))))))) (zQ [zI 4 (.mv (zK 0)), zI 5 (.mv (zK 0))] .ret)))
theorem low111 : lowF Try.prog [] Try.f111 = some (25, lc111.strip, [.tmp 4, .tmp 5]) := by kernel_rfl
theorem fn111 : FnOk Try.prog 111 25 lc111 [.tmp 4, .tmp 5] := ⟨Try.call111, [], _, Try.func111, low111⟩
def lc112 : LCode :=
 (zQ [zI 4 (.boxS (zR 1)), zI 5 (.mv (zK 0))] (zQ [zI 8 (.load true 13 (zR 2)), zI 9 (.fld 1 (zR 4)), zL 10 9, zI 11 (zC 113 [(zR 8), (zR 10)]), zM 6 11, zI 7 (.mv (zK 0))] (.seq (zQ [zI 12 (.fld 0 (zR 4)), zL 13 12, zI
 14 (.bin .eql (zR 13) (zK 1))] (.cond (zR 14) (.region [zI 15 (.fld 1 (zR 4)), zL 16 15, zI 17 (zC 93 [(zR 16), (zK 0), (zK 2)]), zM 6 17, zI 7 (.mv (zK (-30000)))]) .skip)) (.seq (.regionD [zI 18 (.fld 0 (zR 4)), zL 19
 18, zI 20 (zC 93 [(zR 19), (zK 0), (zK 1)]), zI 21 (zC 90 [(zR 20), (zK 15)]), zM 22 6, zI 23 (zC 90 [(zR 22), (zK 6)]), zI 24 (.fld 2 (zR 4)), zI 25 (.fld 0 (zR 24)), zL 26 25, zM 27 7, zI 28 (zC 93 [(zR 26), (zR 27),
 (zK 30000)]), zM 29 28, zT 30 29 (.fld 2 (zR 4)), zT 31 29 (.fld 1 (zR 30)), zT 32 29 (.load false 1 (zR 31)), zT 33 29 (.mv (zR 7)), zT 34 29 (zC 93 [(zR 32), (zR 33), (zK 30000)]), zI 35 (.pick (zR 29) (zR 34) (zB
 false)), zI 36 (zC 90 [(zR 35), (zK 2)]), zI 37 (.fld 2 (zR 4)), zI 38 (.fld 0 (zR 37)), zL 39 38, zI 40 (.fld 2 (zR 4)), zI 41 (.fld 1 (zR 40)), zL 42 41, zI 43 (.bin .leq (zR 39) (zR 42)), zI 44 (zC 90 [(zR 43), (zK
 9)]), zI 45 (.lit false 38 1 [(zR 21), (zR 23), (zR 36), (zR 44)]), zI 46 (zC 58 [(zR 45)]), zM 5 46] [0, 1, 3, 7, 0, 31, 0, 64, 192, 0, 1023, 2047, 4095, 8191, 16383, 4095, 65535, 131071, 262143, 0, 524288, 1572864, 0,
 4194304, 12582912, 33030144, 67108863, 134217727, 268435455, 536870911] [0, 1, 2, 3, 4, 5, 6, 7, 8, 9, 10, 11, 12, 13, 14, 15, 16, 17, 18, 19, 20, 21, 22, 23, 24, 25, 26, 27, 28, 29]) .ret))))
theorem low112 : lowF Try.prog [4] Try.f112 = some (47, lc112.strip, [.tmp 5]) := by kernel_rfl
theorem fn112 : FnOk Try.prog 112 47 lc112 [.tmp 5] := ⟨Try.call112, [4], _, Try.func112, low112⟩
def lc113 : LCode :=
 (zQ [zI 2 (.boxS (zR 0)), zI 4 (.mv (zB false))] (zQ [zM 5 1, zI 6 (.fld 0 (zR 2)), zI 7 (.fld 6 (zR 6)), zL 8 7, zI 9 (.len (zR 8)), zI 10 (.bin .sub (zR 9) (zK 1)), zI 11 (zC 93 [(zR 5), (zK 0), (zR 10)]), zM 4 11]
 .ret))
theorem low113 : lowF Try.prog [2] Try.f113 = some (12, lc113.strip, [.tmp 4]) := by kernel_rfl
theorem fn113 : FnOk Try.prog 113 12 lc113 [.tmp 4] := ⟨Try.call113, [2], _, Try.func113, low113⟩
def lc114 : LCode :=
 (zQ [zI 2 (.mv (zB false))] (zQ [zM 3 0, zM 4 0, zI 5 (.bin .neq (zR 3) (zR 4)), zM 2 5] .ret))
theorem low114 : lowF Try.prog [] Try.f114 = some (6, lc114.strip, [.tmp 2]) := by kernel_rfl
theorem fn114 : FnOk Try.prog 114 6 lc114 [.tmp 2] := ⟨Try.call114, [], _, Try.func114, low114⟩
def lc116 : LCode :=
 (zQ [zI 2 (.mv (zK 0))] (zQ [zM 3 0, zI 4 (.bin .shr (zR 3) (.const (.int .u64 1))), zI 5 (.bin .and (zR 4) (.const (.int .u64 6148914691236517205))), zM 6 0, zI 7 (.bin .and (zR 6) (.const (.int .u64
 6148914691236517205))), zI 8 (.bin .add (zR 5) (zR 7)), zM 0 8] (zQ [zM 9 0, zI 10 (.bin .shr (zR 9) (.const (.int .u64 2))), zI 11 (.bin .and (zR 10) (.const (.int .u64 3689348814741910323))), zM 12 0, zI 13 (.bin .and
 (zR 12) (.const (.int .u64 3689348814741910323))), zI 14 (.bin .add (zR 11) (zR 13)), zM 0 14] (zQ [zM 15 0, zI 16 (.bin .shr (zR 15) (.const (.int .u64 4))), zM 17 0, zI 18 (.bin .add (zR 16) (zR 17)), zI 19 (.bin .and
 (zR 18) (.const (.int .u64 1085102592571150095))), zM 0 19] (zQ [zM 20 0, zM 21 0, zI 22 (.bin .shr (zR 21) (.const (.int .u64 8))), zI 23 (.bin .add (zR 20) (zR 22)), zM 0 23] (zQ [zM 24 0, zM 25 0, zI 26 (.bin .shr (zR
 25) (.const (.int .u64 16))), zI 27 (.bin .add (zR 24) (zR 26)), zM 0 27] (zQ [zM 28 0, zM 29 0, zI 30 (.bin .shr (zR 29) (.const (.int .u64 32))), zI 31 (.bin .add (zR 28) (zR 30)), zM 0 31] (zQ [zM 32 0, zI 33 (.conv
 .i64 (zR 32)), zI 34 (.bin .and (zR 33) (zK 127)), zM 2 34] .ret))))))))
theorem low116 : lowF Try.prog [] Try.f116 = some (35, lc116.strip, [.tmp 2]) := by kernel_rfl
theorem fn116 : FnOk Try.prog 116 35 lc116 [.tmp 2] := ⟨Try.call116, [], _, Try.func116, low116⟩
def lc4 : LCode :=
 (zQ [zI 3 (.boxS (zR 0)), zI 4 (.boxS (zR 1)), zI 5 (.boxS (zR 2)), zI 6 (.mv (zB false))] (.seq (zQ [zI 28 (zC 15 []), zI 29 (.un .not (zR 28))] (.cond (zR 29) (zQ [zI 6 (.mv (zB false))] .ret) .skip)) (zQ [zI 30 (.fld
 0 (zR 5)), zL 31 30, zM 7 31] (.seq (zQ [zI 32 (.fld 6 (zR 3)), zL 33 32, zI 34 (.len (zR 33)), zI 35 (.bin .gtr (zR 34) (zK 6)), zM 36 35, zF 37 36 (.mv (zR 7)), zF 38 36 (.len (zR 37)), zF 39 36 (.bin .lss (zR 38) (zK
 1)), zI 40 (.pick (zR 36) (zB true) (zR 39)), zM 41 40, zF 42 41 (.mv (zR 7)), zF 43 41 (.len (zR 42)), zF 44 41 (.bin .gtr (zR 43) (zK 7)), zI 45 (.pick (zR 41) (zB true) (zR 44)), zM 46 45, zF 47 46 (.load true 7 (zR
 3)), zF 48 46 (.load true 6 (zR 4)), zF 49 46 (zC 16 [(zR 47), (zR 48)]), zF 50 46 (.bin .neq (zR 49) (zK 0)), zI 51 (.pick (zR 46) (zB true) (zR 50)), zM 52 51, zF 53 52 (.load true 7 (zR 3)), zF 54 52 (.mv (zR 7)), zF
 55 52 (zC 17 [(zR 53), (zR 54)]), zF 56 52 (.bin .neq (zR 55) (zK 0)), zI 57 (.pick (zR 52) (zB true) (zR 56)), zM 58 57, zF 59 58 (.load true 6 (zR 4)), zF 60 58 (zC 18 [(zR 59)]), zI 61 (.pick (zR 58) (zB true) (zR
 60)), zM 62 61, zF 63 62 (.fld 0 (zR 4)), zF 64 62 (.fld 1 (zR 63)), zF 65 62 (.load false 1 (zR 64)), zF 66 62 (.fld 0 (zR 4)), zF 67 62 (.fld 0 (zR 66)), zF 68 62 (.load false 1 (zR 67)), zF 69 62 (.bin .sub (zR 65)
 (zR 68)), zF 70 62 (.bin .add (zR 69) (zK 1)), zF 71 62 (.fld 2 (zR 4)), zF 72 62 (.fld 1 (zR 71)), zF 73 62 (.load false 1 (zR 72)), zF 74 62 (.fld 2 (zR 4)), zF 75 62 (.fld 0 (zR 74)), zF 76 62 (.load false 1 (zR 75)),
 zF 77 62 (.bin .sub (zR 73) (zR 76)), zF 78 62 (.bin .add (zR 77) (zK 1)), zF 79 62 (.bin .mul (zR 70) (zR 78)), zF 80 62 (.fld 4 (zR 4)), zF 81 62 (.fld 1 (zR 80)), zF 82 62 (.load false 1 (zR 81)), zF 83 62 (.fld 4 (zR
 4)), zF 84 62 (.fld 0 (zR 83)), zF 85 62 (.load false 1 (zR 84)), zF 86 62 (.bin .sub (zR 82) (zR 85)), zF 87 62 (.bin .add (zR 86) (zK 1)), zF 88 62 (.bin .mul (zR 79) (zR 87)), zF 89 62 (.bin .gtr (zR 88) (zK 700)), zI
 90 (.pick (zR 62) (zB true) (zR 89))] (.cond (zR 90) (zQ [zI 6 (.mv (zB true))] .ret) .skip)) (.seq (.regionD [zI 92 (.load true 7 (zR 3)), zI 93 (zC 20 [(zR 92)]), zI 94 (.load true 6 (zR 4)), zM 95 7, zI 96 (zC 21 [(zR
 95)]), zI 97 (zC 19 [(zR 93), (zR 94), (zR 96)]), zM 91 97, zI 98 (.ext (zR 91) 0), zI 99 (.ext (zR 91) 1), zI 100 (.ext (zR 91) 2), zI 9 (.alloc [(.int .i64 0), (.int .i64 0), (.int .i64 0)]), zM 8 98, zN (.store 3 (zR
 9) (zR 99)), zM 10 100] [0, 1, 0, 0, 11, 31, 63, 127, 127, 127, 0, 1279, 3583, 8191] [0, 1, 2, 3, 4, 5, 6, 7, 8, 9, 10, 11, 12, 13]) (.seq (zQ [zM 101 10, zI 102 (.bin .neq (zR 101) (zK 0)), zM 103 102, zF 104 103 (.mv
 (zR 8)), zF 105 103 (.len (zR 104)), zF 106 103 (.mv (zR 7)), zF 107 103 (.len (zR 106)), zF 108 103 (.bin .gtr (zR 105) (zR 107)), zI 109 (.pick (zR 103) (zB true) (zR 108)), zM 110 109, zF 111 110 (.load true 6 (zR
 4)), zF 112 110 (.load true 3 (zR 9)), zF 113 110 (zC 22 [(zR 111), (zR 112)]), zF 114 110 (.un .not (zR 113)), zI 115 (.pick (zR 110) (zB true) (zR 114))] (.cond (zR 115) (zQ [zI 6 (.mv (zB false))] .ret) .skip)) (zQ
 [zI 11 (.mv (.const (.slice none 0 0)))] (.seq (zQ [zI 12 (.mv (zK 0))] (.block 0 (.loop (.seq (zQ [zM 116 12, zM 117 7, zI 118 (.len (zR 117)), zI 119 (.bin .lss (zR 116) (zR 118))] (.cond (zR 119) .skip (.exit 0)))
 (.seq (.block 1 (zQ [zM 122 8, zM 123 12, zI 124 (zC 23 [(zR 122), (zR 123)]), zI 125 (.un .not (zR 124))] (.cond (zR 125) (.region [zM 126 11, zM 127 7, zM 128 12, zI 129 (.idx 4 (zR 127) (zR 128)), zI 130 (.load true 4
 (zR 129)), zI 131 (.lit false 73 4 [(zR 130)]), zI 132 (.append true 73 4 32 (zR 126) (zR 131)), zM 11 132]) .skip))) (.region [zM 120 12, zI 121 (.bin .add (zR 120) (zK 1)), zM 12 121])))))) (.seq (zQ [zM 133 11, zI 134
 (.len (zR 133)), zM 135 8, zI 136 (.len (zR 135)), zI 137 (.bin .add (zR 134) (zR 136)), zM 138 7, zI 139 (.len (zR 138)), zI 140 (.bin .neq (zR 137) (zR 139))] (.cond (zR 140) (zQ [zI 6 (.mv (zB false))] .ret) .skip))
 (.seq (.regionD [zI 142 (.load true 7 (zR 3)), zI 143 (zC 20 [(zR 142)]), zI 144 (.load true 6 (zR 4)), zM 145 11, zI 146 (zC 21 [(zR 145)]), zI 147 (zC 24 [(zR 143), (zR 144), (zR 146)]), zM 141 147, zI 148 (.ext (zR
 141) 0), zI 149 (.ext (zR 141) 1), zI 150 (.ext (zR 141) 2), zI 13 (.alloc [(.int .i64 0), (.int .i64 0), (.int .i64 0), (.int .i64 0), (.int .i64 0), (.int .i64 0)]), zN (.store 6 (zR 13) (zR 148)), zM 14 149, zM 15
 150] [0, 1, 0, 0, 11, 31, 63, 127, 127, 127, 0, 1279, 3583, 8191] [0, 1, 2, 3, 4, 5, 6, 7, 8, 9, 10, 11, 12, 13]) (.seq (.regionD [zI 152 (.load true 7 (zR 3)), zI 153 (zC 20 [(zR 152)]), zI 154 (.load true 6 (zR 4)), zM
 155 7, zI 156 (zC 21 [(zR 155)]), zM 157 8, zI 158 (.len (zR 157)), zI 159 (.build [(.slice none 0 0), (.int .i64 0)] [(0, 1, (zR 156)), (1, 1, (zR 158))]), zI 160 (zC 25 [(zR 153), (zR 154), (zR 159)]), zM 151 160, zI
 161 (.ext (zR 151) 0), zI 162 (.ext (zR 151) 1), zI 163 (.ext (zR 151) 2), zI 16 (.alloc [(.int .i64 0), (.int .i64 0), (.int .i64 0), (.int .i64 0), (.int .i64 0), (.int .i64 0)]), zN (.store 6 (zR 16) (zR 161)), zM 17
 162, zM 18 163] [0, 1, 0, 0, 11, 0, 32, 123, 255, 511, 1023, 1023, 1023, 0, 10239, 28671, 65535] [0, 1, 2, 3, 4, 5, 6, 7, 8, 9, 10, 11, 12, 13, 14, 15, 16]) (.seq (.seq (.regionD [zM 164 15, zI 165 (.bin .neq (zR 164)
 (zK 0)), zM 166 165, zF 167 166 (.mv (zR 18)), zF 168 166 (.bin .neq (zR 167) (zK 0)), zI 169 (.pick (zR 166) (zB true) (zR 168)), zM 170 169, zF 171 170 (.load true 6 (zR 13)), zF 172 170 (.load true 3 (zR 9)), zF 173
 170 (zC 22 [(zR 171), (zR 172)]), zF 174 170 (.un .not (zR 173)), zI 175 (.pick (zR 170) (zB true) (zR 174)), zM 176 175, zF 177 176 (.load true 6 (zR 13)), zF 178 176 (.load true 6 (zR 16)), zF 179 176 (zC 26 [(zR 177),
 (zR 178)]), zF 180 176 (.load true 6 (zR 13)), zF 181 176 (.eqA true [false, false, false, false, false, false] (zR 179) (zR 180)), zI 182 (.pick (zR 176) (zB true) (zR 181)), zM 183 182, zF 184 183 (.mv (zR 14)), zF 185
 183 (.bin .lss (zR 184) (zK 1)), zI 186 (.pick (zR 183) (zB true) (zR 185)), zM 187 186, zF 188 187 (.mv (zR 17)), zF 189 187 (.mv (zR 14)), zF 190 187 (.bin .lss (zR 188) (zR 189)), zI 191 (.pick (zR 187) (zB true) (zR
 190))] [0, 1, 3, 7, 15, 31, 63, 127, 127, 511, 1023, 2047, 4095, 8191, 8191, 32767, 8191, 131071, 262143, 524287, 1048575, 2097151, 4194303, 8388607, 16777215, 16777215, 67108863, 134217727] [0, 1, 2, 3, 4, 5, 6, 7, 8,
 9, 10, 11, 12, 13, 14, 15, 16, 17, 18, 19, 20, 21, 22, 23, 24, 25, 26, 27]) (.cond (zR 191) (zQ [zI 6 (.mv (zB false))] .ret) .skip)) (.seq (zQ [zM 192 8, zI 193 (.len (zR 192)), zI 194 (.bin .eql (zR 193) (zK 1))]
 (.cond (zR 194) (.seq (.regionD [zI 196 (.load true 7 (zR 3)), zI 197 (zC 20 [(zR 196)]), zI 198 (.load true 6 (zR 4)), zM 199 7, zI 200 (zC 21 [(zR 199)]), zI 201 (zC 24 [(zR 197), (zR 198), (zR 200)]), zM 195 201, zI
 202 (.ext (zR 195) 0), zI 203 (.ext (zR 195) 1), zI 204 (.ext (zR 195) 2), zI 19 (.alloc [(.int .i64 0), (.int .i64 0), (.int .i64 0), (.int .i64 0), (.int .i64 0), (.int .i64 0)]), zN (.store 6 (zR 19) (zR 202)), zM 20
 203, zM 21 204] [0, 1, 0, 0, 11, 31, 63, 127, 127, 127, 0, 1279, 3583, 8191] [0, 1, 2, 3, 4, 5, 6, 7, 8, 9, 10, 11, 12, 13]) (zQ [zM 205 21, zI 206 (.bin .neq (zR 205) (zK 12))] (.cond (zR 206) (zQ [zI 6 (.mv (zB
 false))] .ret) .skip))) .skip)) (.seq (.regionD [zI 208 (.load true 7 (zR 3)), zI 209 (zC 20 [(zR 208)]), zI 210 (.load true 6 (zR 4)), zM 211 7, zI 212 (zC 21 [(zR 211)]), zI 213 (zC 27 [(zR 209), (zR 210), (zR 212)]),
 zM 207 213, zI 214 (.ext (zR 207) 0), zI 215 (.ext (zR 207) 1), zM 22 214, zM 23 215] [0, 1, 0, 0, 11, 31, 63, 127, 127, 255, 1023] [0, 1, 2, 3, 4, 5, 6, 7, 8, 9, 10]) (.seq (zQ [zM 216 23, zI 217 (.bin .neq (zR 216) (zK
 0)), zM 218 217, zF 219 218 (.mv (zR 22)), zF 220 218 (.len (zR 219)), zF 221 218 (.mv (zR 7)), zF 222 218 (.len (zR 221)), zF 223 218 (.bin .neq (zR 220) (zR 222)), zI 224 (.pick (zR 218) (zB true) (zR 223))] (.cond (zR
 224) (zQ [zI 6 (.mv (zB false))] .ret) .skip)) (.seq (zQ [zI 24 (.mv (zK 0))] (.block 2 (.loop (.seq (zQ [zM 225 24, zM 226 7, zI 227 (.len (zR 226)), zI 228 (.bin .lss (zR 225) (zR 227))] (.cond (zR 228) .skip (.exit
 2))) (.seq (.block 3 (zQ [zM 231 22, zM 232 24, zI 233 (.idx 1 (zR 231) (zR 232)), zL 234 233, zI 235 (.bin .eql (zR 234) (zK 0)), zM 236 235, zT 237 236 (.mv (zR 8)), zT 238 236 (.mv (zR 24)), zT 239 236 (zC 23 [(zR
 237), (zR 238)]), zT 240 236 (.un .not (zR 239)), zI 241 (.pick (zR 236) (zR 240) (zB false)), zM 242 241, zF 243 242 (.mv (zR 22)), zF 244 242 (.mv (zR 24)), zF 245 242 (.idx 1 (zR 243) (zR 244)), zF 246 242 (.load
 false 1 (zR 245)), zF 247 242 (.bin .eql (zR 246) (zK 2)), zF 248 242 (.mv (zR 247)), zT 249 248 (.mv (zR 8)), zT 250 248 (.mv (zR 24)), zT 251 248 (zC 23 [(zR 249), (zR 250)]), zF 252 242 (.pick (zR 248) (zR 251) (zB
 false)), zI 253 (.pick (zR 242) (zB true) (zR 252))] (.cond (zR 253) (zQ [zI 6 (.mv (zB false))] .ret) .skip))) (.region [zM 229 24, zI 230 (.bin .add (zR 229) (zK 1)), zM 24 230])))))) (.seq (.regionD [zI 255 (.load
 true 7 (zR 3)), zI 256 (zC 20 [(zR 255)]), zI 257 (.load true 6 (zR 4)), zM 258 7, zM 259 7, zI 260 (.len (zR 259)), zI 261 (.bin .sub (zR 260) (zK 1)), zI 262 (.slc 4 (zR 258) none (some (zR 261))), zI 263 (zC 21 [(zR
 262)]), zI 264 (zC 19 [(zR 256), (zR 257), (zR 263)]), zM 254 264, zI 265 (.ext (zR 254) 0), zI 266 (.ext (zR 254) 1), zI 267 (.ext (zR 254) 2), zI 26 (.alloc [(.int .i64 0), (.int .i64 0), (.int .i64 0)]), zM 25 265, zN
 (.store 3 (zR 26) (zR 266)), zM 27 267] [0, 1, 0, 0, 0, 16, 48, 120, 251, 511, 1023, 2047, 2047, 2047, 0, 20479, 57343, 131071] [0, 1, 2, 3, 4, 5, 6, 7, 8, 9, 10, 11, 12, 13, 14, 15, 16, 17]) (zQ [zM 268 27, zI 269 (.bin
 .eql (zR 268) (zK 0)), zM 270 269, zT 271 270 (.mv (zR 25)), zT 272 270 (.len (zR 271)), zT 273 270 (.mv (zR 8)), zT 274 270 (.len (zR 273)), zT 275 270 (.bin .leq (zR 272) (zR 274)), zI 276 (.pick (zR 270) (zR 275) (zB
 false)), zM 277 276, zT 278 277 (.mv (zR 8)), zT 279 277 (.len (zR 278)), zT 280 277 (.mv (zR 25)), zT 281 277 (.len (zR 280)), zT 282 277 (.bin .add (zR 281) (zK 1)), zT 283 277 (.bin .leq (zR 279) (zR 282)), zI 284
 (.pick (zR 277) (zR 283) (zB false)), zM 6 284] .ret))))))))))))))))))
theorem low4 : lowF Try.prog [3, 4, 5, 132] Try.f4 = some (285, lc4.strip, [.tmp 6]) := by kernel_rfl
theorem fn4 : FnOk Try.prog 4 285 lc4 [.tmp 6] := ⟨Try.call4, [3, 4, 5, 132], _, Try.func4, low4⟩
def lc15 : LCode :=
 (zQ [zI 0 (.mv (zB false))] (zQ [zI 7 (zC 46 []), zI 8 (zC 47 []), zI 9 (zC 48 []), zI 10 (zC 19 [(zR 7), (zR 8), (zR 9)]), zM 6 10, zI 11 (.ext (zR 6) 0), zI 12 (.ext (zR 6) 1), zI 13 (.ext (zR 6) 2), zI 2 (.alloc
 [(.int .i64 0), (.int .i64 0), (.int .i64 0)]), zM 1 11, zN (.store 3 (zR 2) (zR 12)), zM 3 13] (zQ [zI 15 (zC 46 []), zI 16 (zC 50 []), zI 17 (zC 51 []), zI 18 (zC 49 [(zR 15), (zR 16), (zR 17)]), zM 14 18, zI 19 (.ext
 (zR 14) 0), zI 20 (.ext (zR 14) 1), zI 4 (.alloc [(.int .i64 0), (.int .i64 0), (.int .i64 0), (.int .i64 0), (.int .i64 0), (.int .i64 0)]), zN (.store 6 (zR 4) (zR 19)), zM 5 20] (zQ [zM 21 3, zI 22 (.bin .eql (zR 21)
 (zK 0)), zM 23 22, zT 24 23 (.mv (zR 1)), zT 25 23 (.lit false 3 1 [(zK 0)]), zT 26 23 (zC 52 [(zR 24), (zR 25)]), zI 27 (.pick (zR 23) (zR 26) (zB false)), zM 28 27, zT 29 28 (.load true 3 (zR 2)), zT 30 28 (.build
 [(.int .i64 0), (.int .i64 0), (.int .i64 0)] [(0, 1, (zK 1))]), zT 31 28 (.eqA false [false, false, false] (zR 29) (zR 30)), zI 32 (.pick (zR 28) (zR 31) (zB false)), zM 33 32, zT 34 33 (.mv (zR 5)), zT 35 33 (.bin .eql
 (zR 34) (zK 0)), zI 36 (.pick (zR 33) (zR 35) (zB false)), zM 37 36, zT 38 37 (.load true 6 (zR 4)), zT 39 37 (.build [(.int .i64 0), (.int .i64 0)] [(0, 1, (zK 2)), (1, 1, (zK 10))]), zT 40 37 (.build [(.int .i64 0),
 (.int .i64 0)] [(0, 1, (zK 0)), (1, 1, (zK 2))]), zT 41 37 (.build [(.int .i64 0), (.int .i64 0)] [(0, 1, (zK 1)), (1, 1, (zK 3))]), zT 42 37 (.build [(.int .i64 0), (.int .i64 0), (.int .i64 0), (.int .i64 0), (.int
 .i64 0), (.int .i64 0)] [(0, 2, (zR 39)), (2, 2, (zR 40)), (4, 2, (zR 41))]), zT 43 37 (.eqA false [false, false, false, false, false, false] (zR 38) (zR 42)), zI 44 (.pick (zR 37) (zR 43) (zB false)), zM 0 44] .ret))))
theorem low15 : lowF Try.prog [] Try.f15 = some (45, lc15.strip, [.tmp 0]) := by kernel_rfl
theorem fn15 : FnOk Try.prog 15 45 lc15 [.tmp 0] := ⟨Try.call15, [], _, Try.func15, low15⟩
def ra19 : LCode :=
 (.region [zI 15 (.alloc [(.int .i64 0), (.int .i64 0), (.int .i64 0)]), zN (.store 3 (zR 15) (zR 42))])
def rb19 : LCode :=
 (.block 1 (.seq (.regionD [zI 43 (.load true 13 (zR 9)), zL 44 5, zI 45 (.load true 3 (zR 15)), zI 46 (zC 63 [(zR 43), (zR 44), (zR 45)]), zL 47 5, zI 48 (.len (zR 47)), zI 49 (zC 62 [(zR 46), (zR 48), (zB true)]), zM 16
 49] [0, 0, 0, 7, 0, 16, 63, 127] [0, 1, 2, 3, 4, 5, 6, 7]) (zQ [zL 50 14, zI 51 (.un .not (zR 50)), zM 52 51, zF 53 52 (.mv (zR 16)), zF 54 52 (.len (zR 53)), zF 55 52 (.load false 1 (zR 12)), zF 56 52 (.len (zR 55)), zF
 57 52 (.bin .lss (zR 54) (zR 56)), zI 58 (.pick (zR 52) (zB true) (zR 57)), zM 59 58, zF 60 59 (.mv (zR 16)), zF 61 59 (.len (zR 60)), zF 62 59 (.load false 1 (zR 12)), zF 63 59 (.len (zR 62)), zF 64 59 (.bin .eql (zR
 61) (zR 63)), zF 65 59 (.mv (zR 64)), zT 66 65 (.mv (zR 16)), zT 67 65 (.load false 1 (zR 12)), zT 68 65 (zC 64 [(zR 66), (zR 67)]), zT 69 65 (.bin .lss (zR 68) (zK 0)), zF 70 59 (.pick (zR 65) (zR 69) (zB false)), zI 71
 (.pick (zR 59) (zB true) (zR 70))] (.cond (zR 71) (.regionD [zM 72 16, zI 73 (.load true 3 (zR 15)), zN (.store 1 (zR 12) (zR 72)), zN (.store 3 (zR 13) (zR 73)), zN (.store 1 (zR 14) (zB true))] [0, 0, 1, 7, 15] [0, 1,
 2, 3, 4]) .skip))))
def lc19 : LCode :=
 (zQ [zI 3 (.boxS (zR 0)), zI 4 (.boxS (zR 1)), zI 5 (.boxS (zR 2)), zI 6 (.mv (.const (.slice none 0 0))), zI 7 (.alloc [(.int .i64 0), (.int .i64 0), (.int .i64 0)]), zI 8 (.mv (zK 0))] (zQ [zI 18 (.load true 7 (zR 3)),
 zI 19 (.load true 6 (zR 4)), zI 20 (zC 57 [(zR 18), (zR 19)]), zM 17 20, zI 21 (.ext (zR 17) 0), zI 22 (.ext (zR 17) 1), zI 23 (.ext (zR 17) 2), zI 9 (.alloc [(.int .i64 0), (.int .i64 0), (.int .i64 0), (.int .i64 0),
 (.int .i64 0), (.int .i64 0), (.slice none 0 0), (.int .i64 0), (.int .i64 0), (.int .i64 0), (.int .i64 0), (.int .i64 0), (.int .i64 0)]), zI 10 (.alloc [(.int .i64 0), (.int .i64 0), (.int .i64 0), (.int .i64 0),
 (.int .i64 0), (.int .i64 0)]), zN (.store 13 (zR 9) (zR 21)), zN (.store 6 (zR 10) (zR 22)), zM 11 23] (.seq (zQ [zM 24 11, zI 25 (.load true 7 (zR 3)), zL 26 5, zI 27 (zC 59 [(zR 25), (zR 26)]), zI 28 (.lit false 38 1
 [(zR 24), (zR 27)]), zI 29 (zC 58 [(zR 28)]), zM 11 29] (zQ [zM 30 11, zI 31 (.bin .neq (zR 30) (zK 0))] (.cond (zR 31) (zQ [zI 32 (.build [(.int .i64 0), (.int .i64 0), (.int .i64 0)] []), zM 33 11, zI 6 (.mv (.const
 (.slice none 0 0))), zN (.store 3 (zR 7) (zR 32)), zM 8 33] .ret) .skip))) (.seq (zQ [zI 34 (.load true 6 (zR 10)), zI 35 (zC 60 [(zR 34)]), zM 11 35] (zQ [zM 36 11, zI 37 (.bin .neq (zR 36) (zK 0))] (.cond (zR 37) (zQ
 [zI 38 (.build [(.int .i64 0), (.int .i64 0), (.int .i64 0)] []), zM 39 11, zI 6 (.mv (.const (.slice none 0 0))), zN (.store 3 (zR 7) (zR 38)), zM 8 39] .ret) .skip))) (zQ [zI 12 (.alloc [(.slice none 0 0)])] (zQ [zI 13
 (.alloc [(.int .i64 0), (.int .i64 0), (.int .i64 0)])] (zQ [zI 14 (.alloc [(.bool false)]), zN (.store 1 (zR 14) (zB false))] (.seq (zQ [zI 40 (.load true 6 (zR 10)), zI 41 (.mkfnB 61 (zR 40))] (.block 0 (.rangeFunc (zR
 41) [42] ra19 rb19))) (.seq (.regionD [zL 74 12, zI 75 (.load true 3 (zR 13)), zI 76 (zC 65 [(zR 75)]), zM 6 74, zN (.store 3 (zR 7) (zR 76)), zI 8 (.mv (zK 0))] [0, 0, 2, 7, 15, 31] [0, 1, 2, 3, 4, 5]) .ret)))))))))
theorem low19 : lowF Try.prog [3, 4, 5] Try.f19 = some (77, lc19.strip, [.tmp 6, .cell 7 true 3, .tmp 8]) := by kernel_rfl
theorem fn19 : FnOk Try.prog 19 77 lc19 [.tmp 6, .cell 7 true 3, .tmp 8] := ⟨Try.call19, [3, 4, 5], _, Try.func19, low19⟩
def lc24 : LCode :=
 (zQ [zI 3 (.boxS (zR 0)), zI 4 (.boxS (zR 1)), zI 6 (.alloc [(.int .i64 0), (.int .i64 0), (.int .i64 0), (.int .i64 0), (.int .i64 0), (.int .i64 0)]), zI 7 (.mv (zK 0)), zI 8 (.mv (zK 0))] (zQ [zI 9 (.load true 7 (zR
 3)), zI 10 (.load true 6 (zR 4)), zM 11 2, zI 12 (.build [(.slice none 0 0), (.int .i64 0)] [(0, 1, (zR 11))]), zI 13 (zC 25 [(zR 9), (zR 10), (zR 12)]), zI 14 (.ext (zR 13) 0), zI 15 (.ext (zR 13) 1), zI 16 (.ext (zR
 13) 2), zN (.store 6 (zR 6) (zR 14)), zM 7 15, zM 8 16] .ret))
theorem low24 : lowF Try.prog [3, 4] Try.f24 = some (17, lc24.strip, [.cell 6 true 6, .tmp 7, .tmp 8]) := by kernel_rfl
theorem fn24 : FnOk Try.prog 24 17 lc24 [.cell 6 true 6, .tmp 7, .tmp 8] := ⟨Try.call24, [3, 4], _, Try.func24, low24⟩
def lc25 : LCode :=
 (zQ [zI 3 (.boxS (zR 0)), zI 4 (.boxS (zR 1)), zI 5 (.boxS (zR 2)), zI 6 (.alloc [(.int .i64 0), (.int .i64 0), (.int .i64 0), (.int .i64 0), (.int .i64 0), (.int .i64 0)]), zI 7 (.mv (zK 0)), zI 8 (.mv (zK 0))] (zQ [zI
 15 (.load true 7 (zR 3)), zI 16 (.load true 6 (zR 4)), zI 17 (zC 57 [(zR 15), (zR 16)]), zM 14 17, zI 18 (.ext (zR 14) 0), zI 19 (.ext (zR 14) 1), zI 20 (.ext (zR 14) 2), zI 9 (.alloc [(.int .i64 0), (.int .i64 0), (.int
 .i64 0), (.int .i64 0), (.int .i64 0), (.int .i64 0), (.slice none 0 0), (.int .i64 0), (.int .i64 0), (.int .i64 0), (.int .i64 0), (.int .i64 0), (.int .i64 0)]), zI 10 (.alloc [(.int .i64 0), (.int .i64 0), (.int .i64
 0), (.int .i64 0), (.int .i64 0), (.int .i64 0)]), zN (.store 13 (zR 9) (zR 18)), zN (.store 6 (zR 10) (zR 19)), zM 11 20] (.seq (zQ [zM 21 11, zI 22 (.load true 7 (zR 3)), zI 23 (.load true 2 (zR 5)), zI 24 (zC 67 [(zR
 22), (zR 23)]), zI 25 (.lit false 38 1 [(zR 21), (zR 24)]), zI 26 (zC 58 [(zR 25)]), zM 11 26] (zQ [zM 27 11, zI 28 (.bin .neq (zR 27) (zK 0))] (.cond (zR 28) (zQ [zI 29 (.build [(.int .i64 0), (.int .i64 0), (.int .i64
 0), (.int .i64 0), (.int .i64 0), (.int .i64 0)] []), zM 30 11, zN (.store 6 (zR 6) (zR 29)), zI 7 (.mv (zK 0)), zM 8 30] .ret) .skip))) (.seq (zQ [zI 31 (.load true 6 (zR 10)), zI 32 (zC 60 [(zR 31)]), zM 11 32] (zQ [zM
 33 11, zI 34 (.bin .neq (zR 33) (zK 0))] (.cond (zR 34) (zQ [zI 35 (.build [(.int .i64 0), (.int .i64 0), (.int .i64 0), (.int .i64 0), (.int .i64 0), (.int .i64 0)] []), zM 36 11, zN (.store 6 (zR 6) (zR 35)), zI 7 (.mv
 (zK 0)), zM 8 36] .ret) .skip))) (zQ [zI 38 (.load true 13 (zR 9)), zI 39 (.load true 6 (zR 10)), zI 40 (.load true 2 (zR 5)), zI 41 (zC 68 [(zR 38), (zR 39), (zR 40)]), zM 37 41, zI 42 (.ext (zR 37) 0), zI 43 (.ext (zR
 37) 1), zI 12 (.alloc [(.int .i64 0), (.int .i64 0), (.int .i64 0), (.int .i64 0), (.int .i64 0), (.int .i64 0)]), zN (.store 6 (zR 12) (zR 42)), zM 13 43] (.seq (zQ [zM 44 13, zI 45 (.bin .eql (zR 44) (zK 0))] (.cond
 (zR 45) (zQ [zI 46 (.build [(.int .i64 0), (.int .i64 0), (.int .i64 0), (.int .i64 0), (.int .i64 0), (.int .i64 0)] []), zN (.store 6 (zR 6) (zR 46)), zI 7 (.mv (zK 0)), zI 8 (.mv (zK 12))] .ret) .skip)) (zQ [zI 47
 (.load true 6 (zR 12)), zI 48 (zC 69 [(zR 47)]), zM 49 13, zN (.store 6 (zR 6) (zR 48)), zM 7 49, zI 8 (.mv (zK 0))] .ret)))))))
theorem low25 : lowF Try.prog [3, 4, 5] Try.f25 = some (50, lc25.strip, [.cell 6 true 6, .tmp 7, .tmp 8]) := by kernel_rfl
theorem fn25 : FnOk Try.prog 25 50 lc25 [.cell 6 true 6, .tmp 7, .tmp 8] := ⟨Try.call25, [3, 4, 5], _, Try.func25, low25⟩
def lc27 : LCode :=
 (zQ [zI 3 (.boxS (zR 0)), zI 4 (.boxS (zR 1)), zI 6 (.mv (.const (.slice none 0 0))), zI 7 (.mv (zK 0))] (zQ [zI 17 (.load true 7 (zR 3)), zI 18 (.load true 6 (zR 4)), zI 19 (zC 57 [(zR 17), (zR 18)]), zM 16 19, zI 20
 (.ext (zR 16) 0), zI 21 (.ext (zR 16) 1), zI 22 (.ext (zR 16) 2), zI 8 (.alloc [(.int .i64 0), (.int .i64 0), (.int .i64 0), (.int .i64 0), (.int .i64 0), (.int .i64 0), (.slice none 0 0), (.int .i64 0), (.int .i64 0),
 (.int .i64 0), (.int .i64 0), (.int .i64 0), (.int .i64 0)]), zI 9 (.alloc [(.int .i64 0), (.int .i64 0), (.int .i64 0), (.int .i64 0), (.int .i64 0), (.int .i64 0)]), zN (.store 13 (zR 8) (zR 20)), zN (.store 6 (zR 9)
 (zR 21)), zM 10 22] (.seq (zQ [zM 23 10, zI 24 (.load true 7 (zR 3)), zM 25 2, zI 26 (zC 59 [(zR 24), (zR 25)]), zI 27 (.lit false 38 1 [(zR 23), (zR 26)]), zI 28 (zC 58 [(zR 27)]), zM 10 28] (zQ [zM 29 10, zI 30 (.bin
 .neq (zR 29) (zK 0))] (.cond (zR 30) (zQ [zM 31 10, zI 6 (.mv (.const (.slice none 0 0))), zM 7 31] .ret) .skip))) (zQ [zI 11 (.mv (.const (.slice none 0 0)))] (.seq (zQ [zM 32 2, zI 33 (.len (zR 32)), zI 34 (.mv (zK
 0))] (.block 0 (.loop (zQ [zI 35 (.bin .lss (zR 34) (zR 33))] (.seq (.cond (zR 35) .skip (.exit 0)) (.seq (.block 1 (zQ [zI 36 (.idx 4 (zR 32) (zR 34)), zI 37 (.load true 4 (zR 36)), zI 13 (.alloc [(.int .i64 0), (.int
 .i64 0), (.int .i64 0), (.int .i64 0)]), zN (.store 4 (zR 13) (zR 37))] (zQ [zI 39 (.load true 13 (zR 8)), zI 40 (.load true 6 (zR 9)), zI 41 (.load true 4 (zR 13)), zI 42 (zC 72 [(zR 39), (zR 40), (zR 41)]), zM 38 42,
 zI 43 (.ext (zR 38) 0), zI 44 (.ext (zR 38) 1), zI 14 (.alloc [(.int .i64 0), (.int .i64 0)]), zI 15 (.alloc [(.int .i64 0), (.int .i64 0)]), zN (.store 2 (zR 14) (zR 43)), zN (.store 2 (zR 15) (zR 44))] (.block 2 (zQ
 [zI 49 (.fld 0 (zR 15)), zL 50 49, zI 51 (.fld 0 (zR 14)), zL 52 51, zI 53 (.bin .leq (zR 50) (zR 52)), zM 54 53, zT 55 54 (.fld 1 (zR 14)), zT 56 54 (.load false 1 (zR 55)), zT 57 54 (.fld 1 (zR 15)), zT 58 54 (.load
 false 1 (zR 57)), zT 59 54 (.bin .leq (zR 56) (zR 58)), zI 60 (.pick (zR 54) (zR 59) (zB false)), zM 48 60] (.cond (zR 48) (.region [zM 61 11, zI 62 (.lit false 3 1 [(zK 2)]), zI 63 (.append true 3 1 8 (zR 61) (zR 62)),
 zM 11 63]) (zQ [zI 65 (.fld 1 (zR 14)), zL 66 65, zI 67 (.fld 0 (zR 15)), zL 68 67, zI 69 (.bin .lss (zR 66) (zR 68)), zM 70 69, zF 71 70 (.fld 1 (zR 15)), zF 72 70 (.load false 1 (zR 71)), zF 73 70 (.fld 0 (zR 14)), zF
 74 70 (.load false 1 (zR 73)), zF 75 70 (.bin .lss (zR 72) (zR 74)), zI 76 (.pick (zR 70) (zB true) (zR 75)), zM 64 76] (.cond (zR 64) (.region [zM 77 11, zI 78 (.lit false 3 1 [(zK 0)]), zI 79 (.append true 3 1 8 (zR
 77) (zR 78)), zM 11 79]) (.region [zM 45 11, zI 46 (.lit false 3 1 [(zK 1)]), zI 47 (.append true 3 1 8 (zR 45) (zR 46)), zM 11 47]))))))))) (.region [zI 80 (.bin .add (zR 34) (zK 1)), zM 34 80]))))))) (zQ [zM 81 11, zM
 6 81, zI 7 (.mv (zK 0))] .ret))))))
theorem low27 : lowF Try.prog [3, 4, 47, 63, 79] Try.f27 = some (82, lc27.strip, [.tmp 6, .tmp 7]) := by kernel_rfl
theorem fn27 : FnOk Try.prog 27 82 lc27 [.tmp 6, .tmp 7] := ⟨Try.call27, [3, 4, 47, 63, 79], _, Try.func27, low27⟩
def lc49 : LCode :=
 (zQ [zI 3 (.boxS (zR 0)), zI 4 (.boxS (zR 1)), zI 5 (.boxS (zR 2)), zI 6 (.alloc [(.int .i64 0), (.int .i64 0), (.int .i64 0), (.int .i64 0), (.int .i64 0), (.int .i64 0)]), zI 7 (.mv (zK 0))] (zQ [zI 8 (.load true 7 (zR
 3)), zI 9 (.load true 6 (zR 4)), zI 10 (.load true 7 (zR 5)), zI 11 (zC 83 [(zR 8), (zR 9), (zR 10), (.func 84)]), zI 12 (.ext (zR 11) 0), zI 13 (.ext (zR 11) 1), zN (.store 6 (zR 6) (zR 12)), zM 7 13] .ret))
theorem low49 : lowF Try.prog [3, 4, 5] Try.f49 = some (14, lc49.strip, [.cell 6 true 6, .tmp 7]) := by kernel_rfl
theorem fn49 : FnOk Try.prog 49 14 lc49 [.cell 6 true 6, .tmp 7] := ⟨Try.call49, [3, 4, 5], _, Try.func49, low49⟩
def lc83 : LCode :=
 (zQ [zI 4 (.boxS (zR 0)), zI 5 (.boxS (zR 1)), zI 6 (.boxS (zR 2)), zI 8 (.alloc [(.int .i64 0), (.int .i64 0), (.int .i64 0), (.int .i64 0), (.int .i64 0), (.int .i64 0)]), zI 9 (.mv (zK 0))] (zQ [zI 15 (.load true 7
 (zR 4)), zI 16 (.load true 6 (zR 5)), zI 17 (zC 57 [(zR 15), (zR 16)]), zM 14 17, zI 18 (.ext (zR 14) 0), zI 19 (.ext (zR 14) 1), zI 20 (.ext (zR 14) 2), zI 10 (.alloc [(.int .i64 0), (.int .i64 0), (.int .i64 0), (.int
 .i64 0), (.int .i64 0), (.int .i64 0), (.slice none 0 0), (.int .i64 0), (.int .i64 0), (.int .i64 0), (.int .i64 0), (.int .i64 0), (.int .i64 0)]), zI 11 (.alloc [(.int .i64 0), (.int .i64 0), (.int .i64 0), (.int .i64
 0), (.int .i64 0), (.int .i64 0)]), zN (.store 13 (zR 10) (zR 18)), zN (.store 6 (zR 11) (zR 19)), zM 12 20] (.seq (zQ [zM 21 12, zI 22 (.load true 7 (zR 6)), zI 23 (zC 105 [(zR 22)]), zI 24 (.lit false 38 1 [(zR 21),
 (zR 23)]), zI 25 (zC 58 [(zR 24)]), zM 12 25] (zQ [zM 26 12, zI 27 (.bin .neq (zR 26) (zK 0))] (.cond (zR 27) (zQ [zI 28 (.build [(.int .i64 0), (.int .i64 0), (.int .i64 0), (.int .i64 0), (.int .i64 0), (.int .i64 0)]
 []), zM 29 12, zN (.store 6 (zR 8) (zR 28)), zM 9 29] .ret) .skip))) (zQ [zM 31 3, zI 32 (.load true 13 (zR 10)), zI 33 (.load true 6 (zR 11)), zI 34 (.load true 7 (zR 6)), zI 35 (.call (zR 31) [(zR 32), (zR 33), (zR
 34)]), zM 30 35, zI 36 (.ext (zR 30) 0), zI 37 (.ext (zR 30) 1), zN (.store 6 (zR 11) (zR 36)), zM 13 37] (.seq (zQ [zM 38 13, zI 39 (.un .not (zR 38))] (.cond (zR 39) (zQ [zI 40 (.build [(.int .i64 0), (.int .i64 0),
 (.int .i64 0), (.int .i64 0), (.int .i64 0), (.int .i64 0)] []), zN (.store 6 (zR 8) (zR 40)), zI 9 (.mv (zK 12))] .ret) .skip)) (zQ [zI 41 (.load true 6 (zR 11)), zI 42 (zC 69 [(zR 41)]), zN (.store 6 (zR 8) (zR 42)),
 zI 9 (.mv (zK 0))] .ret))))))
theorem low83 : lowF Try.prog [4, 5, 6] Try.f83 = some (43, lc83.strip, [.cell 8 true 6, .tmp 9]) := by kernel_rfl
theorem fn83 : FnOk Try.prog 83 43 lc83 [.cell 8 true 6, .tmp 9] := ⟨Try.call83, [4, 5, 6], _, Try.func83, low83⟩
def lc84 : LCode :=
 (zQ [zI 3 (.boxS (zR 0)), zI 4 (.box (zR 1)), zI 5 (.boxS (zR 2)), zI 6 (.alloc [(.int .i64 0), (.int .i64 0), (.int .i64 0), (.int .i64 0), (.int .i64 0), (.int .i64 0)]), zI 7 (.mv (zB false))] (.seq (zQ [zI 10 (.fld 1
 (zR 5)), zI 11 (.load true 6 (zR 10)), zI 12 (zC 87 [(zR 11)]), zI 13 (.mv (zK 0))] (.block 0 (.loop (zQ [zI 14 (.bin .lss (zR 13) (zK 3))] (.seq (.cond (zR 14) .skip (.exit 0)) (.seq (.block 1 (zQ [zM 15 13, zI 16
 (.index true 2 3 (zR 12) (zR 13)), zI 9 (.alloc [(.int .i64 0), (.int .i64 0)]), zM 8 15, zN (.store 2 (zR 9) (zR 16))] (.regionD [zM 17 8, zM 18 8, zI 19 (.idxA 2 3 (zR 4) (zR 18)), zI 20 (.fld 0 (zR 19)), zL 21 20, zI
 22 (.fld 0 (zR 5)), zL 23 22, zI 24 (.fld 0 (zR 9)), zL 25 24, zI 26 (.bin .mul (zR 23) (zR 25)), zI 27 (.bin .add (zR 21) (zR 26)), zM 28 8, zI 29 (.idxA 2 3 (zR 4) (zR 28)), zI 30 (.fld 1 (zR 29)), zL 31 30, zI 32
 (.fld 0 (zR 5)), zL 33 32, zI 34 (.fld 1 (zR 9)), zL 35 34, zI 36 (.bin .mul (zR 33) (zR 35)), zI 37 (.bin .add (zR 31) (zR 36)), zI 38 (.build [(.int .i64 0), (.int .i64 0)] [(0, 1, (zR 27)), (1, 1, (zR 37))]), zI 39
 (.idxA 2 3 (zR 4) (zR 17)), zN (.store 2 (zR 39) (zR 38))] [0, 0, 2, 6, 14, 0, 32, 0, 128, 480, 1022, 0, 2048, 6144, 14336, 0, 32768, 0, 131072, 491520, 1046528, 2097150, 4194303, 8388607] [0, 1, 2, 3, 4, 5, 6, 7, 8, 9,
 10, 11, 12, 13, 14, 15, 16, 17, 18, 19, 20, 21, 22, 23]))) (.region [zI 40 (.bin .add (zR 13) (zK 1)), zM 13 40]))))))) (zQ [zI 41 (.load true 6 (zR 4)), zI 42 (.fld 7 (zR 3)), zI 43 (.load true 6 (zR 42)), zI 44 (zC 106
 [(zR 41), (zR 43)]), zI 45 (.ext (zR 44) 0), zI 46 (.ext (zR 44) 1), zN (.store 6 (zR 6) (zR 45)), zM 7 46] .ret)))
theorem low84 : lowF Try.prog [3, 5] Try.f84 = some (47, lc84.strip, [.cell 6 true 6, .tmp 7]) := by kernel_rfl
theorem fn84 : FnOk Try.prog 84 47 lc84 [.cell 6 true 6, .tmp 7] := ⟨Try.call84, [3, 5], _, Try.func84, low84⟩
def lc108 : LCode :=
 (zQ [zI 1 (.boxS (zR 0)), zI 2 (.mv (zK 0)), zI 3 (.mv (zK 0))] (zQ [zI 6 (.fld 0 (zR 1)), zI 7 (.load true 6 (zR 6)), zI 8 (zC 87 [(zR 7)]), zI 4 (.alloc [(.int .i64 0), (.int .i64 0), (.int .i64 0), (.int .i64 0),
 (.int .i64 0), (.int .i64 0)]), zN (.store 6 (zR 4) (zR 8))] (.seq (.regionD [zI 9 (.load true 6 (zR 4)), zI 10 (zC 123 [(zR 9), (zK 10000)]), zM 11 10, zT 12 11 (.fld 0 (zR 1)), zT 13 11 (.fld 4 (zR 12)), zT 14 11 (.fld
 0 (zR 13)), zT 15 11 (.load false 1 (zR 14)), zT 16 11 (.bin .geq (zR 15) (zK 0)), zI 17 (.pick (zR 11) (zR 16) (zB false)), zM 18 17, zT 19 18 (.fld 0 (zR 1)), zT 20 18 (.fld 4 (zR 19)), zT 21 18 (.fld 1 (zR 20)), zT 22
 18 (.load false 1 (zR 21)), zT 23 18 (.bin .geq (zR 22) (zK 0)), zI 24 (.pick (zR 18) (zR 23) (zB false)), zI 25 (zC 90 [(zR 24), (zK 2)]), zI 26 (.load true 6 (zR 4)), zI 27 (zC 109 [(zR 26)]), zI 28 (zC 90 [(zR 27),
 (zK 9)]), zI 29 (.fld 6 (zR 1)), zL 30 29, zI 31 (.len (zR 30)), zI 32 (.bin .leq (zR 31) (zK 6)), zI 33 (zC 90 [(zR 32), (zK 8)]), zI 34 (.lit false 38 1 [(zR 25), (zR 28), (zR 33)]), zI 35 (zC 58 [(zR 34)]), zM 5 35]
 [0, 1, 3, 7, 15, 31, 63, 127, 255, 511, 1023, 2047, 4095, 8191, 16383, 32767, 65535, 0, 262143, 524287, 0, 1048576, 3145728, 7340032, 16777215, 33554431, 67108863, 134217727] [0, 1, 2, 3, 4, 5, 6, 7, 8, 9, 10, 11, 12,
 13, 14, 15, 16, 17, 18, 19, 20, 21, 22, 23, 24, 25, 26, 27]) (.seq (zQ [zM 36 5, zI 37 (.bin .neq (zR 36) (zK 0))] (.cond (zR 37) (zQ [zM 38 5, zI 2 (.mv (zK 0)), zM 3 38] .ret) .skip)) (zQ [zI 39 (.fld 6 (zR 1)), zL 40
 39, zI 41 (.mkfn 125 [(zR 1)]), zI 42 (zC 124 [(zR 40), (zR 41)]), zI 43 (.ext (zR 42) 0), zI 44 (.ext (zR 42) 1), zM 2 43, zM 3 44] .ret)))))
theorem low108 : lowF Try.prog [1] Try.f108 = some (45, lc108.strip, [.tmp 2, .tmp 3]) := by kernel_rfl
theorem fn108 : FnOk Try.prog 108 45 lc108 [.tmp 2, .tmp 3] := ⟨Try.call108, [1], _, Try.func108, low108⟩
def lc123 : LCode :=
 (zQ [zI 2 (.boxS (zR 0)), zI 3 (.boxS (zR 1)), zI 4 (.mv (zB false))] (zQ [zI 5 (.slcP 2 3 (zR 2)), zI 6 (.mkfn 135 [(zR 3)]), zI 7 (zC 132 [(zR 5), (zR 6)]), zI 8 (.un .not (zR 7)), zM 4 8] .ret))
theorem low123 : lowF Try.prog [2, 3] Try.f123 = some (9, lc123.strip, [.tmp 4]) := by kernel_rfl
theorem fn123 : FnOk Try.prog 123 9 lc123 [.tmp 4] := ⟨Try.call123, [2, 3], _, Try.func123, low123⟩
def lc124 : LCode :=
 (zQ [zI 4 (.mv (zK 0)), zI 5 (.mv (zK 0))] (.seq (zQ [zM 9 0, zI 10 (.len (zR 9)), zI 11 (.mv (zK 0))] (.block 0 (.loop (zQ [zI 12 (.bin .lss (zR 11) (zR 10))] (.seq (.cond (zR 12) .skip (.exit 0)) (.seq (.block 1 (zQ
 [zM 13 11, zI 14 (.idx 4 (zR 9) (zR 11)), zI 15 (.load true 4 (zR 14)), ⟨some 7, .alloc [(.string ⟨#[]⟩), (.int .i64 0), (.int .i64 0), (.int .i64 0)], none⟩, zM 6 13, zN (.store 4 (zR 7) (zR 15))] (zQ [zM 16 1, zM 17 6,
 zI 18 (.load true 4 (zR 7)), zI 19 (.call (zR 16) [(zR 17), (zR 18)]), zM 8 19] (zQ [zM 20 8, zI 21 (.bin .neq (zR 20) (zK 0))] (.cond (zR 21) (zQ [zM 22 6, zM 23 8, zM 4 22, zM 5 23] .ret) .skip))))) (.region [zI 24
 (.bin .add (zR 11) (zK 1)), zM 11 24]))))))) (zQ [zI 4 (.mv (zK 0)), zI 5 (.mv (zK 0))] .ret)))
theorem low124 : lowF Try.prog [] Try.f124 = some (25, lc124.strip, [.tmp 4, .tmp 5]) := by kernel_rfl
theorem fn124 : FnOk Try.prog 124 25 lc124 [.tmp 4, .tmp 5] := ⟨Try.call124, [], _, Try.func124, low124⟩
def lc125 : LCode :=
 (zQ [zI 4 (.boxS (zR 1)), zI 5 (.mv (zK 0))] (zQ [zI 9 (.fld 6 (zR 2)), zL 10 9, zM 11 0, zI 12 (.slc 4 (zR 10) none (some (zR 11))), zI 13 (.mkfn 127 [(zR 4)]), zI 14 (zC 126 [(zR 12), (zR 13)]), zM 6 14] (zQ [zI 15
 (.fld 1 (zR 4)), zI 16 (.load true 3 (zR 15)), zI 17 (zC 97 [(zR 16)]), zI 7 (.alloc [(.int .i64 0), (.int .i64 0), (.int .i64 0)]), zN (.store 3 (zR 7) (zR 17))] (zQ [zI 18 (.slcP 1 3 (zR 7)), zI 19 (zC 128 [(zR 18),
 (.func 129)]), zM 8 19] (zQ [zI 20 (.fld 0 (zR 4)), zL 21 20, zI 22 (zC 131 [(zR 21)]), zI 23 (zC 90 [(zR 22), (zK 4)]), zM 24 6, zI 25 (.un .not (zR 24)), zI 26 (zC 90 [(zR 25), (zK 5)]), zM 27 8, zI 28 (.un .not (zR
 27)), zI 29 (zC 90 [(zR 28), (zK 2)]), zI 30 (.lit false 38 1 [(zR 23), (zR 26), (zR 29)]), zI 31 (zC 58 [(zR 30)]), zM 5 31] .ret)))))
theorem low125 : lowF Try.prog [4] Try.f125 = some (32, lc125.strip, [.tmp 5]) := by kernel_rfl
theorem fn125 : FnOk Try.prog 125 32 lc125 [.tmp 5] := ⟨Try.call125, [4], _, Try.func125, low125⟩
def lc126 : LCode :=
 (zQ [zI 4 (.mv (zB false))] (zQ [zM 5 0, zM 6 1, zI 7 (zC 136 [(zR 5), (zR 6)]), zI 8 (.bin .geq (zR 7) (zK 0)), zM 4 8] .ret))
theorem low126 : lowF Try.prog [] Try.f126 = some (9, lc126.strip, [.tmp 4]) := by kernel_rfl
theorem fn126 : FnOk Try.prog 126 9 lc126 [.tmp 4] := ⟨Try.call126, [], _, Try.func126, low126⟩
def lc127 : LCode :=
 (zQ [zI 2 (.boxS (zR 0)), zI 3 (.mv (zB false))] (zQ [zI 4 (.fld 0 (zR 2)), zL 5 4, zI 6 (.fld 0 (zR 1)), zL 7 6, zI 8 (.eqS false (zR 5) (zR 7)), zM 3 8] .ret))
theorem low127 : lowF Try.prog [2] Try.f127 = some (9, lc127.strip, [.tmp 3]) := by kernel_rfl
theorem fn127 : FnOk Try.prog 127 9 lc127 [.tmp 3] := ⟨Try.call127, [2], _, Try.func127, low127⟩
def lc128 : LCode :=
 (zQ [zI 4 (.mv (zB false))] (zQ [zM 5 0, zM 6 1, zI 7 (zC 137 [(zR 5), (zR 6)]), zI 8 (.bin .geq (zR 7) (zK 0)), zM 4 8] .ret))
theorem low128 : lowF Try.prog [] Try.f128 = some (9, lc128.strip, [.tmp 4]) := by kernel_rfl
theorem fn128 : FnOk Try.prog 128 9 lc128 [.tmp 4] := ⟨Try.call128, [], _, Try.func128, low128⟩
def lc129 : LCode :=
 (zQ [zI 2 (.mv (zB false))] (zQ [zM 3 0, zI 4 (zC 130 [(zR 3), (zK 10000)]), zI 5 (.un .not (zR 4)), zM 2 5] .ret))
theorem low129 : lowF Try.prog [] Try.f129 = some (6, lc129.strip, [.tmp 2]) := by kernel_rfl
theorem fn129 : FnOk Try.prog 129 6 lc129 [.tmp 2] := ⟨Try.call129, [], _, Try.func129, low129⟩
def lc130 : LCode :=
 (zQ [zI 4 (.mv (zB false))] (zQ [zM 5 0, zM 6 1, zI 7 (.un .neg (zR 6)), zM 8 1, zI 9 (zC 93 [(zR 5), (zR 7), (zR 8)]), zM 4 9] .ret))
theorem low130 : lowF Try.prog [] Try.f130 = some (10, lc130.strip, [.tmp 4]) := by kernel_rfl
theorem fn130 : FnOk Try.prog 130 10 lc130 [.tmp 4] := ⟨Try.call130, [], _, Try.func130, low130⟩
def lc131 : LCode :=
 (zQ [zI 2 (.mv (zB false))] (.seq (zQ [zM 7 0, zI 8 (.bytS (zR 7)), zI 9 (.len (zR 8)), zI 10 (.mv (zK 0))] (.block 0 (.loop (zQ [zI 11 (.bin .lss (zR 10) (zR 9))] (.seq (.cond (zR 11) .skip (.exit 0)) (.seq (.block 1
 (zQ [zM 12 10, zI 13 (.idx 1 (zR 8) (zR 10)), zL 14 13, zM 3 12, zM 4 14] (zQ [zM 15 4, zI 16 (.bin .leq (.const (.int .u8 97)) (zR 15)), zM 17 16, zT 18 17 (.mv (zR 4)), zT 19 17 (.bin .leq (zR 18) (.const (.int .u8
 122))), zI 20 (.pick (zR 17) (zR 19) (zB false)), zM 21 20, zF 22 21 (.mv (zR 4)), zF 23 21 (.bin .leq (.const (.int .u8 65)) (zR 22)), zF 24 21 (.mv (zR 23)), zT 25 24 (.mv (zR 4)), zT 26 24 (.bin .leq (zR 25) (.const
 (.int .u8 90))), zF 27 21 (.pick (zR 24) (zR 26) (zB false)), zI 28 (.pick (zR 21) (zB true) (zR 27)), zM 5 28] (zQ [zM 29 4, zI 30 (.bin .leq (.const (.int .u8 48)) (zR 29)), zM 31 30, zT 32 31 (.mv (zR 4)), zT 33 31
 (.bin .leq (zR 32) (.const (.int .u8 57))), zI 34 (.pick (zR 31) (zR 33) (zB false)), zM 35 34, zF 36 35 (.mv (zR 4)), zF 37 35 (.bin .eql (zR 36) (.const (.int .u8 45))), zI 38 (.pick (zR 35) (zB true) (zR 37)), zM 6
 38] (zQ [zM 39 5, zI 40 (.un .not (zR 39)), zM 41 40, zT 42 41 (.mv (zR 3)), zT 43 41 (.bin .eql (zR 42) (zK 0)), zT 44 41 (.mv (zR 43)), zF 45 44 (.mv (zR 6)), zF 46 44 (.un .not (zR 45)), zT 47 41 (.pick (zR 44) (zB
 true) (zR 46)), zI 48 (.pick (zR 41) (zR 47) (zB false))] (.cond (zR 48) (zQ [zI 2 (.mv (zB false))] .ret) .skip)))))) (.region [zI 49 (.bin .add (zR 10) (zK 1)), zM 10 49]))))))) (zQ [zM 50 0, zI 51 (.lenS (zR 50)), zI
 52 (zC 93 [(zR 51), (zK 1), (zK 12)]), zM 2 52] .ret)))
theorem low131 : lowF Try.prog [] Try.f131 = some (53, lc131.strip, [.tmp 2]) := by kernel_rfl
theorem fn131 : FnOk Try.prog 131 53 lc131 [.tmp 2] := ⟨Try.call131, [], _, Try.func131, low131⟩
def lc132 : LCode :=
 (zQ [zI 4 (.mv (zB false))] (zQ [zM 5 0, zM 6 1, zI 7 (zC 138 [(zR 5), (zR 6)]), zI 8 (.bin .geq (zR 7) (zK 0)), zM 4 8] .ret))
theorem low132 : lowF Try.prog [] Try.f132 = some (9, lc132.strip, [.tmp 4]) := by kernel_rfl
theorem fn132 : FnOk Try.prog 132 9 lc132 [.tmp 4] := ⟨Try.call132, [], _, Try.func132, low132⟩
def lc133 : LCode :=
 (zQ [zI 1 (.boxS (zR 0)), zI 2 (.mv (zB false))] (zQ [zI 3 (.fld 0 (zR 1)), zL 4 3, zI 5 (.fld 1 (zR 1)), zL 6 5, zI 7 (.bin .gtr (zR 4) (zR 6)), zM 2 7] .ret))
theorem low133 : lowF Try.prog [1] Try.f133 = some (8, lc133.strip, [.tmp 2]) := by kernel_rfl
theorem fn133 : FnOk Try.prog 133 8 lc133 [.tmp 2] := ⟨Try.call133, [1], _, Try.func133, low133⟩
def lc135 : LCode :=
 (zQ [zI 2 (.boxS (zR 0)), zI 3 (.mv (zB false))] (zQ [zI 4 (.fld 0 (zR 2)), zL 5 4, zL 6 1, zI 7 (zC 130 [(zR 5), (zR 6)]), zI 8 (.un .not (zR 7)), zM 9 8, zF 10 9 (.fld 1 (zR 2)), zF 11 9 (.load false 1 (zR 10)), zF 12
 9 (.load false 1 (zR 1)), zF 13 9 (zC 130 [(zR 11), (zR 12)]), zF 14 9 (.un .not (zR 13)), zI 15 (.pick (zR 9) (zB true) (zR 14)), zM 3 15] .ret))
theorem low135 : lowF Try.prog [2] Try.f135 = some (16, lc135.strip, [.tmp 3]) := by kernel_rfl
theorem fn135 : FnOk Try.prog 135 16 lc135 [.tmp 3] := ⟨Try.call135, [2], _, Try.func135, low135⟩
def lc136 : LCode :=
 (zQ [zI 4 (.mv (zK 0))] (.seq (zQ [zM 6 0, zI 7 (.len (zR 6)), zI 8 (.mv (zK 0))] (.block 0 (.loop (zQ [zI 9 (.bin .lss (zR 8) (zR 7))] (.seq (.cond (zR 9) .skip (.exit 0)) (.seq (.block 1 (zQ [zM 10 8, zM 5 10] (zQ [zM
 11 1, zM 12 0, zM 13 5, zI 14 (.idx 4 (zR 12) (zR 13)), zI 15 (.load true 4 (zR 14)), zI 16 (.call (zR 11) [(zR 15)])] (.cond (zR 16) (zQ [zM 17 5, zM 4 17] .ret) .skip)))) (.region [zI 18 (.bin .add (zR 8) (zK 1)), zM 8
 18]))))))) (zQ [zI 4 (.mv (zK (-1)))] .ret)))
theorem low136 : lowF Try.prog [] Try.f136 = some (19, lc136.strip, [.tmp 4]) := by kernel_rfl
theorem fn136 : FnOk Try.prog 136 19 lc136 [.tmp 4] := ⟨Try.call136, [], _, Try.func136, low136⟩
def lc137 : LCode :=
 (zQ [zI 4 (.mv (zK 0))] (.seq (zQ [zM 6 0, zI 7 (.len (zR 6)), zI 8 (.mv (zK 0))] (.block 0 (.loop (zQ [zI 9 (.bin .lss (zR 8) (zR 7))] (.seq (.cond (zR 9) .skip (.exit 0)) (.seq (.block 1 (zQ [zM 10 8, zM 5 10] (zQ [zM
 11 1, zM 12 0, zM 13 5, zI 14 (.idx 1 (zR 12) (zR 13)), zL 15 14, zI 16 (.call (zR 11) [(zR 15)])] (.cond (zR 16) (zQ [zM 17 5, zM 4 17] .ret) .skip)))) (.region [zI 18 (.bin .add (zR 8) (zK 1)), zM 8 18]))))))) (zQ [zI
 4 (.mv (zK (-1)))] .ret)))
theorem low137 : lowF Try.prog [] Try.f137 = some (19, lc137.strip, [.tmp 4]) := by kernel_rfl
theorem fn137 : FnOk Try.prog 137 19 lc137 [.tmp 4] := ⟨Try.call137, [], _, Try.func137, low137⟩
def lc138 : LCode :=
 (zQ [zI 4 (.mv (zK 0))] (.seq (zQ [zM 6 0, zI 7 (.len (zR 6)), zI 8 (.mv (zK 0))] (.block 0 (.loop (zQ [zI 9 (.bin .lss (zR 8) (zR 7))] (.seq (.cond (zR 9) .skip (.exit 0)) (.seq (.block 1 (zQ [zM 10 8, zM 5 10] (zQ [zM
 11 1, zM 12 0, zM 13 5, zI 14 (.idx 2 (zR 12) (zR 13)), zI 15 (.load true 2 (zR 14)), zI 16 (.call (zR 11) [(zR 15)])] (.cond (zR 16) (zQ [zM 17 5, zM 4 17] .ret) .skip)))) (.region [zI 18 (.bin .add (zR 8) (zK 1)), zM 8
 18]))))))) (zQ [zI 4 (.mv (zK (-1)))] .ret)))
theorem low138 : lowF Try.prog [] Try.f138 = some (19, lc138.strip, [.tmp 4]) := by kernel_rfl
theorem fn138 : FnOk Try.prog 138 19 lc138 [.tmp 4] := ⟨Try.call138, [], _, Try.func138, low138⟩
end Go.Pw
set_option linter.unusedSimpArgs false
set_option linter.unusedVariables false
set_option maxHeartbeats 1000000
namespace Go.Pw
set_option maxRecDepth 2000
open Go Go.Proofs A1 A2 A3 A4
instance : Mix Try.prog := ⟨⟨by kernel_rfl⟩⟩
abbrev rgv (r : Int × Int) : V := .agg [int r.1, int r.2]
abbrev ptv (p : FxP) : V := .agg [int p.1, int p.2.1, int p.2.2]
abbrev bxv (a : FxB) : V := .agg [int a.1.1, int a.1.2, int a.2.1.1, int a.2.1.2, int a.2.2.1, int a.2.2.2]
abbrev bnD (b : FxN) : List D := [.v (.string b.1), dI b.2.1, dI b.2.2.1, dI b.2.2.2]
abbrev bnv (b : FxN) : V := .agg [.d (.v (.string b.1)), int b.2.1, int b.2.2.1, int b.2.2.2]
abbrev bns (l : List FxN) : C := slv 4 bnD fxn0 l
abbrev bnsD (l : List FxN) : D := .sl 4 l.length fun i => bnD (l.getD i fxn0)
abbrev rdD (r : FxR) : List D := [dI r.1, dI r.2.1, dI r.2.2.1, dI r.2.2.2]
abbrev rdv (r : FxR) : V := .agg [int r.1, int r.2.1, int r.2.2.1, int r.2.2.2]
abbrev rds (l : List FxR) : C := slv 4 rdD fxr0 l
abbrev rdsD (l : List FxR) : D := .sl 4 l.length fun i => rdD (l.getD i fxr0)
abbrev nfv (w : FxB) (B : List FxN) : V := .agg [int w.1.1, int w.1.2, int w.2.1.1, int w.2.1.2, int w.2.2.1, int w.2.2.2, bns B]
abbrev ntv (w : FxB) (B : List FxN) : V := .agg [int w.1.1, int w.1.2, int w.2.1.1, int w.2.1.2, int w.2.2.1, int w.2.2.2, bns B, int w.1.1, int w.1.2, int w.2.1.1, int w.2.1.2, int w.2.2.1, int w.2.2.2]
abbrev ntD (w : FxB) (B : List FxN) : List D := [dI w.1.1, dI w.1.2, dI w.2.1.1, dI w.2.1.2, dI w.2.2.1, dI w.2.2.2, bnsD B, dI w.1.1, dI w.1.2, dI w.2.1.1, dI w.2.1.2, dI w.2.2.1, dI w.2.2.2]
abbrev nfD (w : FxB) (B : List FxN) : List D := [dI w.1.1, dI w.1.2, dI w.2.1.1, dI w.2.1.2, dI w.2.2.1, dI w.2.2.2, bnsD B]
abbrev bxD (a : FxB) : List D := [dI a.1.1, dI a.1.2, dI a.2.1.1, dI a.2.1.2, dI a.2.2.1, dI a.2.2.2]
abbrev rgD (r : Int × Int) : List D := [dI r.1, dI r.2]
abbrev rgs (l : List (Int × Int)) : C := slv 2 rgD (0, 0) l
theorem C6 {n lo hi : Int} : PFD Try.prog 6 [vi .i64 n, vi .i64 lo, vi .i64 hi] (vbl (decide (lo ≤ n ∧ n ≤ hi))) := by
  refine pi1 fn6 ?_
  (repeat' first | (refine Owe.same ?_; first | refine Owe.o ?_ | refine Owe.mk ?_ ?_) | (refine Fork.same ?_; (first | refine fkD ?_ ?_ | refine fkN ?_ ?_ | refine fkM ?_ ?_) <;> intro h) | refine MvQ.stay ?_)
  · (refine rqK rfl ?_; (repeat' first | exact rfl | (refine qS ?_; constructor))); simp [*]
  · (refine rqK rfl ?_; (repeat' first | exact rfl | (refine qS ?_; constructor))); simp only [decide_eq_false_iff_not]; omega
theorem C93 {n lo hi : Int} : PFD Try.prog 93 [vi .i64 n, vi .i64 lo, vi .i64 hi] (vbl (decide (lo ≤ n ∧ n ≤ hi))) := by
  refine pi1 fn93 ?_
  (repeat' first | (refine Owe.same ?_; first | refine Owe.o ?_ | refine Owe.mk ?_ ?_) | (refine Fork.same ?_; (first | refine fkD ?_ ?_ | refine fkN ?_ ?_ | refine fkM ?_ ?_) <;> intro h) | refine MvQ.stay ?_)
  · (refine rqK rfl ?_; (repeat' first | exact rfl | (refine qS ?_; constructor))); simp [*]
  · (refine rqK rfl ?_; (repeat' first | exact rfl | (refine qS ?_; constructor))); simp only [decide_eq_false_iff_not]; omega
theorem C130 {n m : Int} : (0 ≤ m ∧ m ≤ 100000) → PFD Try.prog 130 [vi .i64 n, vi .i64 m] (vbl (decide (-m ≤ n ∧ n ≤ m))) := fun h => by
  refine pi1 fn130 ?_
  (repeat' first | (refine Owe.same ?_; first | refine Owe.o ?_ | refine Owe.mk ?_ ?_) | (refine Fork.same ?_; (first | refine fkD ?_ ?_ | refine fkN ?_ ?_ | refine fkM ?_ ?_) <;> intro h) | ((first | refine OpsL.same ?_ | refine OpsDL.same ?_); first | refine pK C93 rfl rfl ?_) | refine MvQ.stay ?_)
  (refine rqK rfl ?_; (repeat' first | exact rfl | (refine qS ?_; constructor)))
theorem C90 {b : Bool} {e : Int} : PFD Try.prog 90 [vbl b, vi .i64 e] (vi .i64 (unb b e)) := by
  refine pi1 fn90 ?_
  (repeat' first | (refine Owe.same ?_; first | refine Owe.o ?_ | refine Owe.mk ?_ ?_) | (refine Fork.same ?_; (first | refine fkD ?_ ?_ | refine fkN ?_ ?_ | refine fkM ?_ ?_) <;> intro h) | refine MvQ.stay ?_)
  · (refine rqK rfl ?_; (repeat' first | exact rfl | (refine qS ?_; constructor))); simp [unb, *]
  · (refine rqK rfl ?_; (repeat' first | exact rfl | (refine qS ?_; constructor))); simp [unb, *]
theorem C58 {l : List Int} : l.length < 4611686018427387904 → PFD Try.prog 58 [.c (ints l)] (vi .i64 (fstE l)) := fun hl => by
  refine pi1 fn58 ?_
  (repeat' first | (refine Owe.same ?_; first | refine Owe.o ?_ | refine Owe.mk ?_ ?_) | (refine Fork.same ?_; (first | refine fkD ?_ ?_ | refine fkN ?_ ?_ | refine fkM ?_ ?_) <;> intro h) | refine MvQ.stay ?_)
  refine Sat.lp0 (fun k : Nat => [(7, vi .i64 k), (6, vi .i64 l.length), (5, .c (ints l))]) (fun k => k ≤ l.length ∧ fstE l = fstE (l.drop k)) (fun k => l.length - k) 0 ⟨Nat.zero_le _, rfl⟩ (by ((first | refine qen ?_ | refine qvs ?_ | refine qeq ?_ | refine qst ?_ | refine qv ?_ | refine qc ?_ | refine qe ?_ | refine qcs ?_ | skip); (repeat' first | exact rfl | (refine qS ?_; constructor)))) ?_
  intro k hk
  (repeat' first | (refine Owe.same ?_; first | refine Owe.o ?_ | refine Owe.mk ?_ ?_) | (refine Fork.same ?_; (first | refine fkD ?_ ?_ | refine fkN ?_ ?_ | refine fkM ?_ ?_) <;> intro h) | refine MvQ.stay ?_)
  · simp only [Int.toNat_natCast] at h
    (refine rqK rfl ?_; (repeat' first | exact rfl | (refine qS ?_; constructor)))
    rw [hk.2, fstE_drop l k (by omega), if_neg h, Int.toNat_natCast]
  · simp only [Int.toNat_natCast] at h
    refine again0 (k + 1) ⟨by omega, ?_⟩ (by omega) (by ((first | refine qen ?_ | refine qvs ?_ | refine qeq ?_ | refine qst ?_ | refine qv ?_ | refine qc ?_ | refine qe ?_ | refine qcs ?_ | skip); (repeat' first | exact rfl | (refine qS ?_; constructor))))
    rw [hk.2, fstE_drop l k (by omega), if_pos h]
  · (refine rqK rfl ?_; (repeat' first | exact rfl | (refine qS ?_; constructor)))
    rw [hk.2, List.drop_of_length_le (by omega)]; rfl
theorem C87 {a : FxB} : PFD Try.prog 87 [bxv a] (bxv a) := by
  refine pi1 fn87 ?_
  (repeat' first | (refine Owe.same ?_; first | refine Owe.o ?_ | refine Owe.mk ?_ ?_) | (refine Fork.same ?_; (first | refine fkD ?_ ?_ | refine fkN ?_ ?_ | refine fkM ?_ ?_) <;> intro h) | refine MvQ.stay ?_)
  (refine rqK rfl ?_; (repeat' first | exact rfl | (refine qS ?_; constructor)))
theorem C97 {p : FxP} : PFD Try.prog 97 [ptv p] (ptv p) := by
  refine pi1 fn97 ?_
  (repeat' first | (refine Owe.same ?_; first | refine Owe.o ?_ | refine Owe.mk ?_ ?_) | (refine Fork.same ?_; (first | refine fkD ?_ ?_ | refine fkN ?_ ?_ | refine fkM ?_ ?_) <;> intro h) | refine MvQ.stay ?_)
  (refine rqK rfl ?_; (repeat' first | exact rfl | (refine qS ?_; constructor)))
theorem C65 {p : FxP} : PFD Try.prog 65 [ptv p] (ptv p) := by
  refine pi1 fn65 ?_
  (repeat' first | (refine Owe.same ?_; first | refine Owe.o ?_ | refine Owe.mk ?_ ?_) | (refine Fork.same ?_; (first | refine fkD ?_ ?_ | refine fkN ?_ ?_ | refine fkM ?_ ?_) <;> intro h) | refine MvQ.stay ?_)
  (refine rqK rfl ?_; (repeat' first | exact rfl | (refine qS ?_; constructor)))
theorem C69 {a : FxB} : PFD Try.prog 69 [bxv a] (bxv a) := by
  refine pi1 fn69 ?_
  (repeat' first | (refine Owe.same ?_; first | refine Owe.o ?_ | refine Owe.mk ?_ ?_) | (refine Fork.same ?_; (first | refine fkD ?_ ?_ | refine fkN ?_ ?_ | refine fkM ?_ ?_) <;> intro h) | refine MvQ.stay ?_)
  (refine rqK rfl ?_; (repeat' first | exact rfl | (refine qS ?_; constructor)))
theorem C56 {a : FxB} : PFD Try.prog 56 [bxv a] (bxv a) := by
  refine pi1 fn56 ?_
  (repeat' first | (refine Owe.same ?_; first | refine Owe.o ?_ | refine Owe.mk ?_ ?_) | (refine Fork.same ?_; (first | refine fkD ?_ ?_ | refine fkN ?_ ?_ | refine fkM ?_ ?_) <;> intro h) | refine MvQ.stay ?_)
  (refine rqK rfl ?_; (repeat' first | exact rfl | (refine qS ?_; constructor)))
theorem C66 {p : FxP} : PFD Try.prog 66 [ptv p] (ptv p) := by
  refine pi1 fn66 ?_
  (repeat' first | (refine Owe.same ?_; first | refine Owe.o ?_ | refine Owe.mk ?_ ?_) | (refine Fork.same ?_; (first | refine fkD ?_ ?_ | refine fkN ?_ ?_ | refine fkM ?_ ?_) <;> intro h) | refine MvQ.stay ?_)
  (refine rqK rfl ?_; (repeat' first | exact rfl | (refine qS ?_; constructor)))
theorem C70 {a : FxB} : PFD Try.prog 70 [bxv a] (bxv a) := by
  refine pi1 fn70 ?_
  (repeat' first | (refine Owe.same ?_; first | refine Owe.o ?_ | refine Owe.mk ?_ ?_) | (refine Fork.same ?_; (first | refine fkD ?_ ?_ | refine fkN ?_ ?_ | refine fkM ?_ ?_) <;> intro h) | refine MvQ.stay ?_)
  (refine rqK rfl ?_; (repeat' first | exact rfl | (refine qS ?_; constructor)))
theorem C71 {p q : Int × Int} : PFD Try.prog 71 [rgv p, rgv q] (rgv (max p.1 q.1, min p.2 q.2)) := by
  refine pi1 fn71 ?_
  (repeat' first | (refine Owe.same ?_; first | refine Owe.o ?_ | refine Owe.mk ?_ ?_) | (refine Fork.same ?_; (first | refine fkD ?_ ?_ | refine fkN ?_ ?_ | refine fkM ?_ ?_) <;> intro h) | refine MvQ.stay ?_)
  (refine rqK rfl ?_; (repeat' first | exact rfl | (refine qS ?_; constructor)))
theorem C26 {a b : FxB} : PFD Try.prog 26 [bxv a, bxv b] (bxv (cmnB a b)) := by
  have c1 := C71 (p := a.1) (q := b.1)
  have c2 := C71 (p := a.2.1) (q := b.2.1)
  have c3 := C71 (p := a.2.2) (q := b.2.2)
  have c4 := C70 (a := cmnB a b)
  refine pi1 fn26 ?_
  (repeat' first | (refine Owe.same ?_; first | refine Owe.o ?_ | refine Owe.mk ?_ ?_) | (refine Fork.same ?_; (first | refine fkY ?_ | refine fkF ?_ | ((first | refine fkD ?_ ?_ | refine fkN ?_ ?_ | refine fkM ?_ ?_) <;> intro h))) | ((first | refine OpsL.same ?_ | refine OpsDL.same ?_); first | refine oK C56 rfl rfl rfl ?_ | refine oK c1 rfl rfl rfl ?_ | refine oK c2 rfl rfl rfl ?_ | refine oK c3 rfl rfl rfl ?_ | refine oK c4 rfl rfl rfl ?_) | refine MvQ.stay ?_)
  (refine rqK rfl ?_; (repeat' first | exact rfl | (refine qS ?_; constructor)))
def empB (a : FxB) : Prop := a.1.2 < a.1.1 ∨ a.2.1.2 < a.2.1.1 ∨ a.2.2.2 < a.2.2.1
instance {a : FxB} : Decidable (empB a) := by unfold empB; exact inferInstance
theorem C54 {a : FxB} : PFD Try.prog 54 [bxv a] (vbl (decide (empB a))) := by
  refine pi1 fn54 ?_
  (repeat' first | (refine Owe.same ?_; first | refine Owe.o ?_ | refine Owe.mk ?_ ?_) | (refine Fork.same ?_; (first | refine fkD ?_ ?_ | refine fkN ?_ ?_ | refine fkM ?_ ?_) <;> intro h) | ((first | refine OpsL.same ?_ | refine OpsDL.same ?_); first | refine pK C56 rfl rfl ?_) | refine MvQ.stay ?_)
  all_goals (refine rqK rfl ?_; (repeat' first | exact rfl | (refine qS ?_; constructor)))
  all_goals first | refine decide_eq_true ?_ | refine decide_eq_false ?_ | refine decide_eq_decide.2 ?_
  all_goals unfold empB; omega
theorem C22 {a : FxB} {p : FxP} : PFD Try.prog 22 [bxv a, ptv p] (vbl (decide (inB a p))) := by
  refine pi1 fn22 ?_
  (repeat' first | (refine Owe.same ?_; first | refine Owe.o ?_ | refine Owe.mk ?_ ?_) | (refine Fork.same ?_; (first | refine fkD ?_ ?_ | refine fkN ?_ ?_ | refine fkM ?_ ?_) <;> intro h) | ((first | refine OpsL.same ?_ | refine OpsDL.same ?_); first | refine pK C56 rfl rfl ?_ | refine pK C66 rfl rfl ?_ | refine pK C6 rfl rfl ?_) | refine MvQ.stay ?_)
  all_goals (refine rqK rfl ?_; (repeat' first | exact rfl | (refine qS ?_; constructor)))
  all_goals first | refine decide_eq_false ?_ | refine decide_eq_decide.2 ?_
  all_goals unfold inB; omega
theorem C113 {w : FxB} {B : List FxN} {i : Int} : B.length ≤ 1000000 → PFD Try.prog 113 [ntv w B, vi .i64 i] (vbl (decide (0 ≤ i ∧ i ≤ (B.length : Int) - 1))) := fun h => by
  refine pi1 fn113 ?_
  (repeat' first | (refine Owe.same ?_; first | refine Owe.o ?_ | refine Owe.mk ?_ ?_) | (refine Fork.same ?_; (first | refine fkD ?_ ?_ | refine fkN ?_ ?_ | refine fkM ?_ ?_) <;> intro h) | ((first | refine OpsL.same ?_ | refine OpsDL.same ?_); first | refine pK C93 rfl rfl ?_) | refine MvQ.stay ?_)
  (refine rqK rfl ?_; (repeat' first | exact rfl | (refine qS ?_; constructor)))
theorem C92 {p : FxP} : PFD Try.prog 92 [ptv p] (bxv (sgl p)) := by
  refine pi1 fn92 ?_
  (repeat' first | (refine Owe.same ?_; first | refine Owe.o ?_ | refine Owe.mk ?_ ?_) | (refine Fork.same ?_; (first | refine fkD ?_ ?_ | refine fkN ?_ ?_ | refine fkM ?_ ?_) <;> (intro h; try (exfalso; omega))) | refine MvQ.stay ?_)
  refine Sat.rd 3 ?_
  (repeat' first | (refine Owe.same ?_; first | refine Owe.o ?_ | refine Owe.mk ?_ ?_) | (refine Fork.same ?_; (first | refine fkD ?_ ?_ | refine fkN ?_ ?_ | refine fkM ?_ ?_) <;> (intro h; try (exfalso; omega))) | refine MvQ.stay ?_)
  (refine rqK rfl ?_; (repeat' first | exact rfl | (refine qS ?_; constructor)))
end Go.Pw
