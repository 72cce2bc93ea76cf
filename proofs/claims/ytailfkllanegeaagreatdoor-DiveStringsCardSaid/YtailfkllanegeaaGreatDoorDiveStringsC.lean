/- Steps toward the row of this claim: part 3 of 7. Proved as named below, on no condition but those that each theorem states. -/
import Derived.Test.YtailfkllanegeaaGreatDoorDiveStringsB
import Derived.ProofKit
import Derived.Deep.Slices
import Derived.Test.YtailfkllanegeaaGreatDoorProg
set_option linter.unusedVariables false
namespace Go.Pw
open Go Go.RowKit
structure Owe (p q : Prop) : Prop where
  l : p
  r : q
structure Fork (b : Bool) (p q : Prop) : Prop where
  t : b = true → p
  f : b = false → q
theorem Fork.dec {x p q : Prop} [h : Decidable x] (h1 : x → p) (h2 : ¬ x → q) : Fork (decide x) p q := ⟨fun h => h1 (of_decide_eq_true h), fun h => h2 (of_decide_eq_false h)⟩
theorem Fork.ndec {x p q : Prop} [h : Decidable x] (h1 : ¬ x → p) (h2 : x → q) : Fork (!decide x) p q := ⟨fun h => h1 (by simpa using h), fun h => h2 (by simpa using h)⟩
def flush : Option Prop → Prop → Prop
  | none, q => q
  | some p, q => Owe p q
def andO : Option Prop → Prop → Option Prop
  | none, q => some q
  | some p, q => some (p ∧ q)
def okO : Option Prop → Prop
  | none => True
  | some p => p
theorem flush_iff {p : Option Prop} {q : Prop} (h : flush p q) : okO p ∧ q := by
  cases p with
  | none => exact ⟨trivial, h⟩
  | some p => exact ⟨h.l, h.r⟩
theorem okO_and {p : Option Prop} {q : Prop} (h : okO (andO p q)) : okO p ∧ q := by
  cases p with
  | none => exact ⟨trivial, h⟩
  | some p => exact h
def owesB : BinOp → Bool
  | .add | .sub | .mul | .quo | .rem | .shl | .shr => true
  | _ => false
def owes (ev : Operand → V) : LOp → Bool
  | .bin op _ _ => owesB op
  | .un .neg x => match ev x with
    | .c (.fl _) => false
    | _ => true
  | .cplx _ _ | .reC _ | .imC _ | .mkmap _ | .mset _ _ _ _ | .mget _ _ _ _ | .lenM _ | .cap _ => false
  | .un _ _ => false
  | .load _ _ a => match ev a with
    | .c (.ep _ _ _ _) => true
    | _ => false
  | .store _ a _ => match ev a with
    | .c (.ep _ _ _ _) => true
    | _ => false
  | .mv _ | .nilc _ | .pick _ _ _ | .alloc _ | .box _ | .boxS _ | .build _ _ | .eqA _ _ _ _ | .eqB _ _ _ | .mkfn _ _ | .fld _ _ | .part _ _ _ _ | .ext _ _ | .len _ | .lenS _ | .mm _ _ | .binW _ _ _ => false
  | _ => true
theorem bld_some {R : Type} {ev : Operand → V} : ∀ (ps : List (Nat × Nat × Operand)) (cs : List C) (k : List C → Option R) (r : R), bld ev ps cs k = some r → ∃ cs', k cs' = some r
  | [], cs, k, r, h => ⟨cs, h⟩
  | (off, n, x) :: ps, cs, k, r, h => by
    simp only [bld] at h
    split at h
    · split at h
      · rw [frc_eq] at h; exact bld_some ps _ k r h
      · cases h
    · cases h
theorem eqC_some {R : Type} {ks : List Bool} {xs ys : List C} {k : Bool → Option R} {r : R} (h : eqC ks xs ys k = some r) : ∃ b, k b = some r := by
  obtain ⟨bs, _, h⟩ := eqC_inv h
  exact ⟨_, h⟩
theorem owes_false {ev : Operand → V} {σ σ' : Store} {nx nx' : Nat} {op : LOp} {ob : Prop} {v : V} (hw : owes ev op = false) (h : xop ev σ nx op = some (ob, v, σ', nx')) : ob := by
  have fin : ∀ {ob : Prop} {v0 : V} {σ0 : Store} {nx0 : Nat} {r : Res}, (some (True, v0, σ0, nx0) : Option Res) = some r → r.1 := fun h => by cases h; trivial
  cases op with
  | mv x => simp only [xop] at h; split at h <;> first | (cases h; trivial) | cases h
  | nilc x => simp only [xop] at h; split at h <;> first | (cases h; trivial) | cases h
  | pick c a b =>
    simp only [xop] at h
    split at h
    · split at h <;> first | (cases h; trivial) | cases h
    · split at h <;> first | (cases h; trivial) | cases h
    · cases h
  | alloc z => simp only [xop, zeros_eq] at h; cases h; trivial
  | box x => simp only [xop] at h; split at h <;> first | (cases h; trivial) | cases h
  | build z ps =>
    simp only [xop, zeros_eq] at h
    obtain ⟨_, h⟩ := bld_some _ _ _ _ h
    cases h; trivial
  | store n a x =>
    simp only [owes] at hw
    simp only [xop, frc_eq, frs_eq] at h
    split at h
    · (repeat' split at h) <;> first | (cases h; trivial) | cases h
    · rename_i he; rw [he] at hw; cases hw
    · cases h
  | eqA neg ks x y =>
    simp only [xop] at h
    split at h
    · obtain ⟨_, h⟩ := eqC_some h
      split at h <;> (cases h; trivial)
    · cases h
  | eqB neg x y =>
    simp only [xop] at h
    obtain ⟨_, h, _⟩ := vbool_some h
    obtain ⟨_, h, _⟩ := vbool_some h
    split at h <;> (cases h; trivial)
  | un o x =>
    cases o with
    | neg =>
      simp only [owes] at hw
      simp only [xop] at h
      split at h <;> first | (cases h; done) | (rename_i he; rw [he] at hw; cases hw; done) | (cases h; trivial) | (rename_i he _; cases he)
    | not => simp only [xop] at h; split at h <;> first | (cases h; trivial) | cases h | (rename_i hh _; cases hh)
    | _ => simp only [xop] at h; cases h
  | boxS x =>
    simp only [xop] at h
    split at h
    · obtain ⟨_, _, _, h⟩ := toDs_some _ _ _ h
      cases h; trivial
    · cases h
  | mkfn f caps =>
    simp only [xop] at h
    split at h
    · cases h; trivial
    · split at h
      · obtain ⟨_, _, _, h⟩ := rps_some _ _ _ h
        cases h; trivial
      · obtain ⟨_, _, _, h⟩ := ids_some _ _ _ h
        cases h; trivial
  | fld o x => simp only [xop] at h; split at h <;> first | (cases h; trivial) | cases h
  | part g o n x =>
    simp only [xop] at h
    split at h
    · split at h
      · obtain ⟨_, h⟩ := tkc_some _ _ _ _ h; cases h; trivial
      · split at h <;> first | (cases h; trivial) | cases h
    · cases h
  | ext x i => simp only [xop] at h; (repeat' split at h) <;> first | (cases h; trivial) | cases h
  | len x => simp only [xop] at h; (repeat' split at h) <;> first | (cases h; trivial) | cases h
  | lenS x => simp only [xop] at h; (repeat' split at h) <;> first | (cases h; trivial) | cases h
  | cplx x y => simp only [xop] at h; (repeat' split at h) <;> first | (cases h; trivial) | cases h
  | reC x => simp only [xop] at h; (repeat' split at h) <;> first | (cases h; trivial) | cases h
  | imC x => simp only [xop] at h; (repeat' split at h) <;> first | (cases h; trivial) | cases h
  | mkmap m => simp only [xop] at h; cases h; trivial
  | cap x => simp only [xop] at h; (repeat' split at h) <;> first | (cases h; trivial) | cases h
  | mset m a k x => simp only [xop, frs_eq] at h; (repeat' split at h) <;> first | (cases h; trivial) | cases h
  | lenM x => simp only [xop] at h; (repeat' split at h) <;> first | (cases h; trivial) | cases h
  | mget m ok a k => simp only [xop] at h; (repeat' split at h) <;> first | (cases h; trivial) | cases h
  | mm g xs => simp only [xop] at h; (repeat' split at h) <;> first | (cases h; trivial) | cases h
  | bin o x y =>
    simp only [owes] at hw
    simp only [xop] at h
    split at h
    · split at h
      · rename_i ha
        cases h
        unfold binV at ha
        split at ha
        · rename_i hs; cases o <;> simp [isShift] at hs <;> simp [owesB] at hw
        · split at ha
          · cases o <;> simp [owesB] at hw <;> simp only [arith, Option.some.injEq, Prod.mk.injEq, reduceCtorEq] at ha <;> first | exact ha.1 ▸ trivial | exact ha.elim
          · cases ha
      · cases h
    · cases h
  | binW o x y => simp only [xop] at h; (repeat' split at h) <;> first | (cases h; trivial) | cases h
  | load g n a =>
    simp only [owes] at hw
    simp only [xop] at h
    split at h
    · split at h
      · split at h
        · obtain ⟨_, h⟩ := tkc_some _ _ _ _ h; cases h; trivial
        · split at h <;> first | (cases h; trivial) | cases h
      · cases h
    · split at h
      · obtain ⟨_, h⟩ := tkd_some _ _ _ _ h; cases h; trivial
      · split at h <;> first | (cases h; trivial) | cases h
    · rename_i he; rw [he] at hw; simp at hw
    · cases h
  | _ => simp [owes] at hw
section
variable (P : Program) (N base : Nat)
def frNat {R : Type} (n : Nat) (k : Nat → R) : R :=
  match n with
  | 0 => k 0
  | m + 1 => k (m + 1)
theorem frNat_eq {R : Type} (n : Nat) (k : Nat → R) : frNat n k = k n := by cases n <;> rfl
def newName : LOp → Bool
  | .alloc _ | .box _ | .mkmap _ | .slc _ _ _ _ | .litP _ => true
  | .lit own _ _ _ => own
  | .make own _ _ _ _ _ => own
  | .appendN _ _ _ _ _ _ => true
  | .append own _ _ _ _ _ => own
  | _ => false
def putK {R : Type} (dst : Option Nat) (v : V) (env : List (Nat × V)) (k : List (Nat × V) → R) : R :=
  match dst with
  | some d => k ((d, v) :: env)
  | none => k env
theorem putK_eq {R : Type} {dst : Option Nat} {v : V} {env : List (Nat × V)} {k : List (Nat × V) → R} : putK dst v env k = k (putE env dst v) := by cases dst <;> rfl
structure OpsL (ops : List LIns) (st : St) (K : St → Prop) : Prop where
  h : Ops P N base ops st K
def runI (i : LIns) (env : List (Nat × V)) (σ : Store) (nx : Nat) (p : Option Prop) (k : List (Nat × V) → Store → Nat → Option Prop → Prop) (stuck : Prop) : Prop :=
  match xop (evo env) σ nx i.op with
  | some (ob, v, σ', nx') => match owes (evo env) i.op with
    | true => match newName i.op with
      | true => frNat nx' fun nx' => putK i.dst v env fun env' => k env' σ' nx' (andO p ob)
      | false => putK i.dst v env fun env' => k env' σ' nx' (andO p ob)
    | false => match newName i.op with
      | true => frNat nx' fun nx' => putK i.dst v env fun env' => k env' σ' nx' p
      | false => putK i.dst v env fun env' => k env' σ' nx' p
  | none => flush p stuck
def wpOps : List LIns → List (Nat × V) → Store → Nat → Option Prop → (St → Prop) → Prop
  | [], env, σ, nx, p, K => flush p (K ⟨env, σ, nx⟩)
  | i :: os, env, σ, nx, p, K => match guardOf env i.guard with
    | .run => runI i env σ nx p (fun env σ nx p => wpOps os env σ nx p K) (OpsL P N base (i :: os) ⟨env, σ, nx⟩ K)
    | .skip => putK i.dst (.tup []) env fun env => wpOps os env σ nx p K
    | .stop => match i.guard with
      | some (t, want) => match lk env t with
        | .c (.d (.v (.bool b))) => match want with
          | true => flush p (Fork b (runI i ((t, .c .tru) :: env) σ nx none (fun env σ nx p => wpOps os env σ nx p K) (OpsL P N base (i :: os) ⟨(t, .c .tru) :: env, σ, nx⟩ K))
              (putK i.dst (.tup []) ((t, .c .fls) :: env) fun env => wpOps os env σ nx none K))
          | false => flush p (Fork b (putK i.dst (.tup []) ((t, .c .tru) :: env) fun env => wpOps os env σ nx none K)
              (runI i ((t, .c .fls) :: env) σ nx none (fun env σ nx p => wpOps os env σ nx p K) (OpsL P N base (i :: os) ⟨(t, .c .fls) :: env, σ, nx⟩ K)))
        | _ => flush p (OpsL P N base (i :: os) ⟨env, σ, nx⟩ K)
      | none => flush p (OpsL P N base (i :: os) ⟨env, σ, nx⟩ K)
variable {P N base}
theorem runI_spec {i : LIns} {os : List LIns} {env : List (Nat × V)} {σ : Store} {nx : Nat} {p : Option Prop} {K : St → Prop} (hg : guardOf env i.guard = .run)
    (ih : ∀ env σ nx p, wpOps P N base os env σ nx p K → okO p ∧ Ops P N base os ⟨env, σ, nx⟩ K)
    (h : runI i env σ nx p (fun env σ nx p => wpOps P N base os env σ nx p K) (OpsL P N base (i :: os) ⟨env, σ, nx⟩ K)) : okO p ∧ Ops P N base (i :: os) ⟨env, σ, nx⟩ K := by
  unfold runI at h
  split at h
  · rename_i ob v σ' nx' hx
    simp only [frNat_eq, putK_eq] at h
    have hgo : ∀ p', wpOps P N base os (putE env i.dst v) σ' nx' p' K → (okO p' → okO p ∧ ob) → okO p ∧ Ops P N base (i :: os) ⟨env, σ, nx⟩ K := fun p' h hp => by
      obtain ⟨h1, h2⟩ := ih _ _ _ _ h
      obtain ⟨h3, h4⟩ := hp h1
      exact ⟨h3, Ops.step (st := ⟨env, σ, nx⟩) (guardOf_run hg) hx h4 h2⟩
    split at h
    · split at h
      · exact hgo _ h okO_and
      · exact hgo _ h okO_and
    · rename_i hw
      split at h
      · exact hgo _ h fun hp => ⟨hp, owes_false hw hx⟩
      · exact hgo _ h fun hp => ⟨hp, owes_false hw hx⟩
  · exact ⟨(flush_iff h).1, (flush_iff h).2.h⟩
theorem Ops.know' {ops : List LIns} {env : List (Nat × V)} {σ : Store} {nx : Nat} {K : St → Prop} (t : Nat) (b : Bool) (h : lk env t = vbl b) (hf : Fork b (Ops P N base ops ⟨(t, .c .tru) :: env, σ, nx⟩ K) (Ops P N base ops ⟨(t, .c .fls) :: env, σ, nx⟩ K)) : Ops P N base ops ⟨env, σ, nx⟩ K :=
  Ops.know (st := ⟨env, σ, nx⟩) t b h hf.t hf.f
theorem wpOps_spec : ∀ (ops : List LIns) (env : List (Nat × V)) (σ : Store) (nx : Nat) (p : Option Prop) (K : St → Prop), wpOps P N base ops env σ nx p K → okO p ∧ Ops P N base ops ⟨env, σ, nx⟩ K
  | [], env, σ, nx, p, K, h => by
    obtain ⟨h1, h2⟩ := flush_iff h
    exact ⟨h1, Ops.nil h2⟩
  | i :: os, env, σ, nx, p, K, h => by
    have ih := fun env σ nx p => wpOps_spec os env σ nx p K
    have hskip : ∀ env, guardOf env i.guard = .skip → ∀ p, (putK i.dst (.tup []) env fun env => wpOps P N base os env σ nx p K) → okO p ∧ Ops P N base (i :: os) ⟨env, σ, nx⟩ K := fun env hg p h => by
      rw [putK_eq] at h
      obtain ⟨h1, h2⟩ := ih _ _ _ _ h
      exact ⟨h1, Ops.skip (st := ⟨env, σ, nx⟩) (guardOf_skip hg) h2⟩
    unfold wpOps at h
    split at h
    · rename_i hg; exact runI_spec hg ih h
    · rename_i hg; exact hskip env hg p h
    · rename_i hg
      split at h
      · rename_i t want hgu
        have gT : guardOf ((t, .c .tru) :: env) i.guard = (match want with | true => .run | false => .skip) := by
          cases want <;> simp [hgu, guardOf, lk_cons]
        have gF : guardOf ((t, .c .fls) :: env) i.guard = (match want with | true => .skip | false => .run) := by
          cases want <;> simp [hgu, guardOf, lk_cons]
        split at h
        · rename_i b hb
          split at h
          · obtain ⟨h1, h2⟩ := flush_iff h
            exact ⟨h1, Ops.know' t b hb ⟨fun hh => (runI_spec gT ih (h2.t hh)).2, fun hh => (hskip _ gF _ (h2.f hh)).2⟩⟩
          · obtain ⟨h1, h2⟩ := flush_iff h
            exact ⟨h1, Ops.know' t b hb ⟨fun hh => (hskip _ gT _ (h2.t hh)).2, fun hh => (runI_spec gF ih (h2.f hh)).2⟩⟩
        · exact ⟨(flush_iff h).1, (flush_iff h).2.h⟩
      · exact ⟨(flush_iff h).1, (flush_iff h).2.h⟩
theorem Ops.wp {ops : List LIns} {env : List (Nat × V)} {σ : Store} {nx : Nat} {K : St → Prop} (h : wpOps P N base ops env σ nx none K) : Ops P N base ops ⟨env, σ, nx⟩ K := (wpOps_spec _ _ _ _ _ _ h).2
end
end Go.Pw
set_option linter.unusedVariables false
namespace Go.Pw
open Go Go.RowKit
section
variable (P : Program) (N base : Nat) (M : List Nat)
def isLoad : LOp → Bool
  | .load _ _ _ => true
  | _ => false
theorem load_same {ev : Operand → V} {σ σ' : Store} {nx nx' : Nat} {op : LOp} {ob : Prop} {v : V} (hl : isLoad op = true) (h : xop ev σ nx op = some (ob, v, σ', nx')) : σ' = σ := by
  cases op with
  | load g n a =>
    simp only [xop] at h
    split at h
    · split at h
      · split at h
        · obtain ⟨_, h⟩ := tkc_some _ _ _ _ h; cases h; rfl
        · split at h <;> first | (cases h; rfl) | cases h
      · cases h
    · split at h
      · obtain ⟨_, h⟩ := tkd_some _ _ _ _ h; cases h; rfl
      · split at h <;> first | (cases h; rfl) | cases h
    · split at h
      · split at h
        · split at h
          · obtain ⟨_, h⟩ := tkd_some _ _ _ _ h; cases h; rfl
          · split at h <;> first | (cases h; rfl) | cases h
        · cases h
      · cases h
    · cases h
  | _ => simp [isLoad] at hl
def runID (i : LIns) (env : List (Nat × V)) (σ : Store) (nx : Nat) (p : Option Prop) (acc : List (Bool × List Nat)) (k : List (Nat × V) → Store → Nat → Option Prop → List (Bool × List Nat) → Prop) (stuck : Prop) : Prop :=
  match xop (evo env) (pickS σ (foot (evo env) i.op)) nx i.op with
  | some (ob, v, σ1, _) => match owes (evo env) i.op with
    | true => match foot (evo env) i.op, σ1 with
      | [], [] => frNat (nx + 1) fun nx' => putK i.dst v env fun env' => k env' σ nx' (andO p ob) ((true, []) :: acc)
      | ft, σ1 => frS (app (pickS σ ft) σ1 σ) fun σ' => frN (dom (pickS σ ft) ++ dom σ1) fun fp => frNat (nx + 1) fun nx' => putK i.dst v env fun env' => k env' σ' nx' (andO p ob) ((isLoad i.op, fp) :: acc)
    | false => match foot (evo env) i.op, σ1 with
      | [], [] => frNat (nx + 1) fun nx' => putK i.dst v env fun env' => k env' σ nx' p ((true, []) :: acc)
      | ft, σ1 => frS (app (pickS σ ft) σ1 σ) fun σ' => frN (dom (pickS σ ft) ++ dom σ1) fun fp => frNat (nx + 1) fun nx' => putK i.dst v env fun env' => k env' σ' nx' p ((isLoad i.op, fp) :: acc)
  | none => flush p stuck
abbrev OpsD' (ops : List LIns) (st : St) (acc : List (Bool × List Nat)) (K : St → Prop) : Prop := OpsD P N base M 0 [] ops st acc K
structure OpsDL (ops : List LIns) (st : St) (acc : List (Bool × List Nat)) (K : St → Prop) : Prop where
  h : OpsD P N base M 0 [] ops st acc K
def wpD : List LIns → List (Nat × V) → Store → Nat → Option Prop → List (Bool × List Nat) → (St → Prop) → Prop
  | [], env, σ, nx, p, acc, K => match fpAll M 0 acc.reverse with
    | true => flush p (K ⟨env, σ, nx⟩)
    | false => False
  | i :: os, env, σ, nx, p, acc, K => match guardOf env i.guard with
    | .run => runID i env σ nx p acc (fun env σ nx p acc => wpD os env σ nx p acc K) (OpsDL P N base M (i :: os) ⟨env, σ, nx⟩ acc K)
    | .skip => putK i.dst (.tup []) env fun env => wpD os env σ nx p ((true, []) :: acc) K
    | .stop => match i.guard with
      | some (t, want) => match lk env t with
        | .c (.d (.v (.bool b))) => match want with
          | true => flush p (Fork b (runID i ((t, .c .tru) :: env) σ nx none acc (fun env σ nx p acc => wpD os env σ nx p acc K) (OpsDL P N base M (i :: os) ⟨(t, .c .tru) :: env, σ, nx⟩ acc K))
              (putK i.dst (.tup []) ((t, .c .fls) :: env) fun env => wpD os env σ nx none ((true, []) :: acc) K))
          | false => flush p (Fork b (putK i.dst (.tup []) ((t, .c .tru) :: env) fun env => wpD os env σ nx none ((true, []) :: acc) K)
              (runID i ((t, .c .fls) :: env) σ nx none acc (fun env σ nx p acc => wpD os env σ nx p acc K) (OpsDL P N base M (i :: os) ⟨(t, .c .fls) :: env, σ, nx⟩ acc K)))
        | _ => flush p (OpsDL P N base M (i :: os) ⟨env, σ, nx⟩ acc K)
      | none => flush p (OpsDL P N base M (i :: os) ⟨env, σ, nx⟩ acc K)
variable {P N base M}
theorem runID_spec {i : LIns} {os : List LIns} {env : List (Nat × V)} {σ : Store} {nx : Nat} {p : Option Prop} {acc : List (Bool × List Nat)} {K : St → Prop} (hg : guardOf env i.guard = .run)
    (ih : ∀ env σ nx p acc, wpD P N base M os env σ nx p acc K → okO p ∧ OpsD' P N base M os ⟨env, σ, nx⟩ acc K)
    (h : runID i env σ nx p acc (fun env σ nx p acc => wpD P N base M os env σ nx p acc K) (OpsDL P N base M (i :: os) ⟨env, σ, nx⟩ acc K)) : okO p ∧ OpsD' P N base M (i :: os) ⟨env, σ, nx⟩ acc K := by
  unfold runID at h
  split at h
  · rename_i ob v σ1 nx1 hx
    simp only [frNat_eq, putK_eq, frS_eq, frN_eq] at h
    have hgo : ∀ (rd : Bool) p', (rd = true → σ1 = pickS σ (foot (evo env) i.op)) → wpD P N base M os (putE env i.dst v) (app (pickS σ (foot (evo env) i.op)) σ1 σ) (nx + 1) p' ((rd, dom (pickS σ (foot (evo env) i.op)) ++ dom σ1) :: acc) K → (okO p' → okO p ∧ ob) → okO p ∧ OpsD' P N base M (i :: os) ⟨env, σ, nx⟩ acc K := fun rd p' hrd h hp => by
      obtain ⟨h1, h2⟩ := ih _ _ _ _ _ h
      obtain ⟨h3, h4⟩ := hp h1
      exact ⟨h3, OpsD.step (k := 0) (st := ⟨env, σ, nx⟩) (VStep.xop hg hx h4) (pickS_sub _) (Nat.le_refl _) (Nat.le_succ _) rd hrd h2⟩
    split at h
    · split at h
      · rename_i hft
        have := fun p' => hgo true p' (fun _ => by rw [hft]; rfl)
        simp only [hft, pickS, app, catS, dom, delD, List.append_nil] at this
        exact this _ h okO_and
      · exact hgo _ _ (fun hl => load_same hl hx) h okO_and
    · rename_i hw
      split at h
      · rename_i hft
        have := fun p' => hgo true p' (fun _ => by rw [hft]; rfl)
        simp only [hft, pickS, app, catS, dom, delD, List.append_nil] at this
        exact this _ h fun hp => ⟨hp, owes_false hw hx⟩
      · exact hgo _ _ (fun hl => load_same hl hx) h fun hp => ⟨hp, owes_false hw hx⟩
  · exact ⟨(flush_iff h).1, (flush_iff h).2.h⟩
theorem OpsD.know' {ops : List LIns} {env : List (Nat × V)} {σ : Store} {nx : Nat} {acc : List (Bool × List Nat)} {K : St → Prop} (t : Nat) (b : Bool) (h : lk env t = vbl b) (hf : Fork b (OpsD' P N base M ops ⟨(t, .c .tru) :: env, σ, nx⟩ acc K) (OpsD' P N base M ops ⟨(t, .c .fls) :: env, σ, nx⟩ acc K)) : OpsD' P N base M ops ⟨env, σ, nx⟩ acc K :=
  OpsD.know (st := ⟨env, σ, nx⟩) t b h hf.t hf.f
theorem wpD_spec : ∀ (ops : List LIns) (env : List (Nat × V)) (σ : Store) (nx : Nat) (p : Option Prop) (acc : List (Bool × List Nat)) (K : St → Prop), wpD P N base M ops env σ nx p acc K → okO p ∧ OpsD' P N base M ops ⟨env, σ, nx⟩ acc K
  | [], env, σ, nx, p, acc, K, h => by
    unfold wpD at h
    split at h
    · rename_i hf
      obtain ⟨h1, h2⟩ := flush_iff h
      exact ⟨h1, OpsD.nil hf h2⟩
    · exact h.elim
  | i :: os, env, σ, nx, p, acc, K, h => by
    have ih := fun env σ nx p acc => wpD_spec os env σ nx p acc K
    have hskip : ∀ env, guardOf env i.guard = .skip → ∀ p, (putK i.dst (.tup []) env fun env => wpD P N base M os env σ nx p ((true, []) :: acc) K) → okO p ∧ OpsD' P N base M (i :: os) ⟨env, σ, nx⟩ acc K := fun env hg p h => by
      rw [putK_eq] at h
      obtain ⟨h1, h2⟩ := ih _ _ _ _ _ h
      exact ⟨h1, OpsD.step (k := 0) (σ0 := []) (σ1 := []) (st := ⟨env, σ, nx⟩) (VStep.skip (lo := nx) hg) (fun id e h => by simp [get] at h) (Nat.le_refl _) (Nat.le_refl _) true (fun _ => rfl) h2⟩
    unfold wpD at h
    split at h
    · rename_i hg; exact runID_spec hg ih h
    · rename_i hg; exact hskip env hg p h
    · rename_i hg
      split at h
      · rename_i t want hgu
        have gT : guardOf ((t, .c .tru) :: env) i.guard = (match want with | true => .run | false => .skip) := by
          cases want <;> simp [hgu, guardOf, lk_cons]
        have gF : guardOf ((t, .c .fls) :: env) i.guard = (match want with | true => .skip | false => .run) := by
          cases want <;> simp [hgu, guardOf, lk_cons]
        split at h
        · rename_i b hb
          split at h
          · obtain ⟨h1, h2⟩ := flush_iff h
            exact ⟨h1, OpsD.know' t b hb ⟨fun hh => (runID_spec gT ih (h2.t hh)).2, fun hh => (hskip _ gF _ (h2.f hh)).2⟩⟩
          · obtain ⟨h1, h2⟩ := flush_iff h
            exact ⟨h1, OpsD.know' t b hb ⟨fun hh => (hskip _ gT _ (h2.t hh)).2, fun hh => (runID_spec gF ih (h2.f hh)).2⟩⟩
        · exact ⟨(flush_iff h).1, (flush_iff h).2.h⟩
      · exact ⟨(flush_iff h).1, (flush_iff h).2.h⟩
theorem OpsD.wp {ops : List LIns} {env : List (Nat × V)} {σ : Store} {nx : Nat} {acc : List (Bool × List Nat)} {K : St → Prop} (h : wpD P N base M ops env σ nx none acc K) : OpsD' P N base M ops ⟨env, σ, nx⟩ acc K := (wpD_spec _ _ _ _ _ _ _ h).2
end
theorem Mv.nilms {base : Nat} {env : List (Nat × V)} {σ : Store} {nx : Nat} (t : Nat) (e : TypeId) (s : Nat) (f : Nat → List D) (h : lk env t = .c (.d (.v (.slice none 0 0)))) : Mv base ⟨env, σ, nx⟩ ⟨(t, .c (.ms nx 0)) :: env, (nx, .row e s 0 f false) :: σ, nx + 1⟩ :=
  fun _ _ _ _ _ hc => hc.nilms (st := ⟨env, σ, nx⟩) e s f h
theorem Mv.freeze {base : Nat} {env : List (Nat × V)} {σ : Store} {nx : Nat} (t id : Nat) {n : Nat} {e : TypeId} {s m : Nat} {f : Nat → List D} {fz : Bool} (h : lk env t = .c (.ms id n)) (hg : get σ id = some (.row e s m f fz)) (hn : n ≤ m) :
    Mv base ⟨env, σ, nx⟩ ⟨(t, .c (.d (.sl s n f))) :: env, set σ id (.row e s m f true), nx⟩ := fun N B0 Γ w a hc => by
  obtain ⟨Γ', b, hb, rfl, h1, h2⟩ := hc.freeze hg
  refine ⟨_, ⟨h1.size, fun t' => ?_, h1.ok, h1.free, h1.le, h1.dfs⟩, h2⟩
  rw [lk_cons]
  split
  · rename_i ht
    subst ht
    have := hc.env t
    rw [h] at this
    cases this with
    | c _ _ hr =>
      obtain ⟨b', hb', hd⟩ := ms_data hc.ok hg hn hr
      rw [hb] at hb'; cases hb'
      exact .c _ _ (hd _ (fun k hk => .inl hk) (fun hcc => .inr ⟨rfl, hcc⟩))
  · exact h1.env t'
theorem Mv.env {base : Nat} {env env' : List (Nat × V)} {σ : Store} {nx : Nat} (h : ∀ t, RI (lk env t) (lk env' t)) : Mv base ⟨env, σ, nx⟩ ⟨env', σ, nx⟩ := fun _ _ Γ _ _ hc => ⟨Γ, hc.same h fun _ => rfl, Ext.refl _ _ _ _⟩
theorem Mv.dd {base : Nat} {env : List (Nat × V)} {σ : Store} {nx : Nat} : Mv base ⟨env, σ, nx⟩ ⟨Pw.dd env [], σ, nx⟩ :=
  Mv.env fun t => by rw [lk_dd _ _ _ (by simp)]; exact RI.refl _
structure MvQ (base : Nat) (Q : Exit → St → Prop) (e : Exit) (st : St) : Prop where
  h : ∃ st1, Mv base st st1 ∧ Q e st1
section
variable {P : Program} {N base : Nat} {st st1 : St} {Q : Exit → St → Prop} {x : LCode}
theorem Sat.mv (h : Sat P N base x st (MvQ base Q)) : Sat P N base x st Q := by
  intro ro n B0 own code hro hl Γ0 Γ w0 w σ0 a hc hext
  refine wpIn_mono (h ro n B0 own code hro hl Γ0 Γ w0 w σ0 a hc hext) (fun e a' w' ⟨Γ', st', h1, h2, ⟨st2, h3, h4⟩⟩ => ?_)
  obtain ⟨Γ'', h5, h6⟩ := h3 _ _ _ _ _ h1
  exact ⟨Γ'', st2, h5, h2.trans h6, h4⟩
theorem Sat.from (hm : Mv base st st1) (h : Sat P N base x st1 Q) : Sat P N base x st Q := by
  intro ro n B0 own code hro hl Γ0 Γ w0 w σ0 a hc hext
  obtain ⟨Γ', h1, h2⟩ := hm _ _ _ _ _ hc
  exact h ro n B0 own code hro hl Γ0 Γ' w0 w σ0 a h1 (hext.trans h2)
theorem Ops.from {ops : List LIns} {K : St → Prop} (hm : Mv base st st1) (h : Ops P N base ops st1 K) : Ops P N base ops st K := by
  intro ro n B0 own opsA idx os hl hidx Γ0 Γ w0 w σ0 a hc hext
  obtain ⟨Γ', h1, h2⟩ := hm _ _ _ _ _ hc
  exact h ro n B0 own opsA idx os hl hidx Γ0 Γ' w0 w σ0 a h1 (hext.trans h2)
theorem MvQ.stay {e : Exit} (h : Q e st) : MvQ base Q e st := ⟨st, Mv.refl _ _, h⟩
theorem MvQ.from {e : Exit} (hm : Mv base st st1) (h : MvQ base Q e st1) : MvQ base Q e st := by
  obtain ⟨s2, h1, h2⟩ := h
  exact ⟨s2, hm.trans h1, h2⟩
end
section
variable (P : Program) (N base : Nat)
structure SatL (x : LCode) (st : St) (Q : Exit → St → Prop) : Prop where
  h : Sat P N base x.strip st Q
def wp : LCode → St → (Exit → St → Prop) → Prop
  | .skip, st, Q => Q .normal st
  | .exit id, st, Q => Q (.exit id) st
  | .ret, st, Q => Q .ret st
  | .region ops, ⟨env, σ, nx⟩, Q => wpOps P N base ops env σ nx none fun st => Q .normal st
  | .regionD ops M _, ⟨env, σ, nx⟩, Q => wpD P N base M ops env σ nx none [] fun st => Q .normal st
  | .seq a b, st, Q => wp a st fun e st => match e with
    | .normal => wp b st Q
    | e => Q e st
  | .cond c a b, ⟨env, σ, nx⟩, Q => match evo env c with
    | .c .tru => wp a ⟨env, σ, nx⟩ Q
    | .c .fls => wp b ⟨env, σ, nx⟩ Q
    | .c (.d (.v (.bool p))) => match c with
      | .tmp t => Fork p (wp a ⟨(t, .c .tru) :: env, σ, nx⟩ Q) (wp b ⟨(t, .c .fls) :: env, σ, nx⟩ Q)
      | _ => False
    | _ => False
  | .block id a, st, Q => wp a st fun e st => match e with
    | .exit k => match Nat.beq k id with
      | true => Q .normal st
      | false => Q (.exit k) st
    | e => Q e st
  | .loop a, st, Q => SatL P N base (.loop a) st (MvQ base Q)
  | .rangeFunc f ps a c, st, Q => SatL P N base (.rangeFunc f ps a c) st (MvQ base Q)
  | .label, st, Q => Q .normal st
  | .stop a, st, Q => SatL P N base a st Q
  | .scope a, st, Q => wp a st fun e st => match e with
    | .goto _ => False
    | e => Q e st
variable {P N base}
theorem wp_spec [m : Mix P] : ∀ (x : LCode) (st : St) (Q : Exit → St → Prop), wp P N base x st Q → Sat P N base x.strip st Q
  | .skip, st, Q, h => Sat.skip h
  | .exit id, st, Q, h => Sat.exit h
  | .ret, st, Q, h => Sat.ret h
  | .region ops, ⟨env, σ, nx⟩, Q, h => Sat.region (Ops.wp h)
  | .regionD ops M ks, ⟨env, σ, nx⟩, Q, h => Sat.drawn m.h (OpsD.wp h)
  | .seq a b, st, Q, h => Sat.seq ((wp_spec a st _ h).mono fun e st h => by
    cases e with
    | normal => exact wp_spec b st Q h
    | _ => exact h)
  | .cond c a b, ⟨env, σ, nx⟩, Q, h => by
    unfold wp at h
    split at h
    · rename_i hv; exact Sat.condT hv (wp_spec a _ Q h)
    · rename_i hv; exact Sat.condF hv (wp_spec b _ Q h)
    · rename_i p hv
      split at h
      · exact Sat.cond hv (fun hh => wp_spec a _ Q (h.t hh)) (fun hh => wp_spec b _ Q (h.f hh))
      · exact h.elim
    · exact h.elim
  | .block id a, st, Q, h => Sat.block ((wp_spec a st _ h).mono fun e st h => by
    cases e with
    | exit k =>
      simp only [blockQ]
      simp only at h
      split at h
      · rename_i hb; rw [if_pos hb]; exact h
      · rename_i hb; rw [if_neg (by rw [hb]; simp)]; exact h
    | _ => exact h)
  | .loop a, st, Q, h => Sat.mv h.h
  | .rangeFunc f ps a c, st, Q, h => Sat.mv h.h
  | .label, st, Q, h => Sat.label h
  | .stop a, st, Q, h => h.h
  | .scope a, st, Q, h => Sat.scope ((wp_spec a st _ h).mono fun e st h => by
    cases e with
    | goto l => exact h.elim
    | _ => exact h)
end
end Go.Pw
set_option linter.unusedVariables false
namespace Go.Pw
open Go Go.RowKit
section
variable {P : Program} {N base : Nat} {st : St} {Q : Exit → St → Prop}
theorem low_rangeFunc {own : List Nat} {code : Code} {f : Operand} {ps : List Nat} {la lb : LCode} (h : lowCode P N own code = some (.rangeFunc f ps la lb)) :
    ∃ qs a c, code = .rangeFunc f qs a c ∧ qs.toList = ps ∧ lowCode P N own a = some la ∧ lowCode P N own c = some lb := by
  cases code with
  | rangeFunc g qs a c =>
    simp only [lowCode, Option.bind_eq_bind, Option.bind_eq_some_iff, Option.some.injEq] at h
    obtain ⟨x, hx, y, hy, h⟩ := h
    cases h
    exact ⟨qs, a, c, rfl, rfl, hx, hy⟩
  | region id ops draw =>
    simp only [lowCode, Option.bind_eq_bind, Option.bind_eq_some_iff] at h
    obtain ⟨l, hl, h⟩ := h
    split at h
    · split at h <;> simp at h
    · simp at h
  | _ => simp [lowCode, Option.bind_eq_some_iff] at h
theorem alloc_mark {base : Nat} {Γ : Cx} {w : World} {σ : Store} (h : StoreOk Γ w σ) (o : Obj) : StoreOk Γ (w.alloc o) σ ∧ Ext base Γ w σ Γ (w.alloc o) σ :=
  ⟨h.keep (CxLe.refl _) (fun k hI => by have := h.im k hI; simp; omega) (alloc_same h o) (fun k hl => heap_alloc (h.live_lt hl)) (fun k hl hI => h.not_live hI hl),
    Ext.grow (Γ := Γ) (Γ' := Γ) (w := w) (w' := w.alloc o) (fun _ _ => rfl) (fun _ _ => rfl) (fun _ h => h) (fun k h => .inl h) rfl rfl rfl (by simp) (fun k hk _ => heap_alloc hk) _ (fun k hk => .inl hk)⟩
def rangeQ (id : Nat) (env : List (Nat × V)) (Q : Exit → St → Prop) (σ' : Store) (nx' : Nat) : Prop :=
  match get σ' id with
  | some (.lp _ .ready none _) => Q .normal ⟨env, del σ' id, nx'⟩
  | some (.lp _ .done (some .ret) _) => Q .ret ⟨env, del σ' id, nx'⟩
  | some (.lp _ .done (some (.exit k)) _) => Q (.exit k) ⟨env, del σ' id, nx'⟩
  | _ => False
theorem rangeQ_iff {id : Nat} {env : List (Nat × V)} {σ' : Store} {nx' : Nat} (h : rangeQ id env Q σ' nx') :
    ∃ env' s j R, get σ' id = some (.lp env' s j R) ∧ s ≠ .busy ∧ ((j = none ∧ Q .normal ⟨env, del σ' id, nx'⟩) ∨ (j = some .ret ∧ Q .ret ⟨env, del σ' id, nx'⟩) ∨ ∃ k, j = some (.exit k) ∧ Q (.exit k) ⟨env, del σ' id, nx'⟩) := by
  unfold rangeQ at h
  split at h
  · rename_i e R hg; exact ⟨_, _, _, _, hg, by simp, .inl ⟨rfl, h⟩⟩
  · rename_i e R hg; exact ⟨_, _, _, _, hg, by simp, .inr (.inl ⟨rfl, h⟩)⟩
  · rename_i e k R hg; exact ⟨_, _, _, _, hg, by simp, .inr (.inr ⟨_, rfl, h⟩)⟩
  · exact h.elim
theorem Sat.rangeFunc {f : Operand} {ps : List Nat} {la lb : LCode} {fid : FuncId} {ids : List Nat} (hf : evo st.env f = .c (.fn fid ids)) (hps : ps.all (fun p => decide (p < N)) = true)
    (h : CallS P fid (.c (.yd st.nx) :: ids.map fun k => .c (.bp k 0)) ((st.nx, .lp st.env .ready none (RR P N ps la lb)) :: st.σ) (st.nx + 1) fun _ σ' nx' => rangeQ st.nx st.env Q σ' nx') :
    Sat P N base (.rangeFunc f ps la lb) st Q := by
  intro ro n B0 own code hro hl Γ0 Γ w0 w σ0 a hc hext
  obtain ⟨qs, ca, cb, rfl, hqs, hla, hlb⟩ := low_rangeFunc hl
  have hro' := hro rfl
  subst hro'
  have hfr := hc.ev f
  rw [hf] at hfr
  obtain ⟨bs, hbl, hbs, hfu⟩ : ∃ bs : List Nat, bs.length = ids.length ∧ (∀ (j i : Nat), ids[j]? = some i → ∃ b, Γ.ρ i = some b ∧ bs[j]? = some b) ∧ a.eval f = .func (.func fid) #[] (bs.map fun b => ptr b 0).toArray := by
    generalize a.eval f = u at hfr ⊢
    cases hfr with | c _ _ h => exact h
  refine wpIn_rangeFunc (fun fn _ => ?_)
  let wa := w.alloc (.deferred (some []))
  have hsza : wa.heap.size = w.heap.size + 1 := by simp [wa]
  let r0 : Loop := { state := .ready, pending := none, fn, tmps := a.tmps, params := qs, assign := ca, body := cb, defers := w.heap.size }
  let w1 := wa.alloc (.loop r0)
  obtain ⟨hsta, hexta⟩ := alloc_mark (base := st.nx) hc.ok (.deferred (some []))
  have hid := hc.free st.nx (Nat.le_refl _)
  have hRR : RR P N ps la lb { r0 with state := .ready, pending := none } :=
    ⟨hc.size, hqs, fun p hp => by simpa using List.all_eq_true.1 hps p hp, own, hla, hlb⟩
  have hent : EntOk (Γ.upd st.nx wa.heap.size none) (wa.alloc (.loop r0)) st.nx wa.heap.size (.lp st.env .ready none (RR P N ps la lb)) := by
    refine ⟨fun hI => ?_, r0, heap_alloc_new' _ _, rfl, rfl, hRR, fun t => ?_⟩
    · have := hc.ok.im _ hI; omega
    · exact (hc.env t).mono (CxLe.upd _ _ _ hid) (fun k hk => by
        have := hc.ok.im k hk
        rw [heap_alloc (by omega), show wa.heap[k]? = w.heap[k]? from heap_alloc this])
  obtain ⟨hst1, hext1⟩ := alloc_ent (base := st.nx) hsta hid (Nat.le_refl _) (.loop r0) none _ hent
  have hrep : RepL (Γ.upd st.nx wa.heap.size none) w1 (.c (.yd st.nx) :: ids.map fun k => .c (.bp k 0)) (#[Value.func (.yield (w.heap.size + 1)) #[] #[]] ++ (bs.map fun b => ptr b 0).toArray) := by
    refine ⟨by simp [hbl], fun j v u hv hu => ?_⟩
    cases j with
    | zero =>
      simp at hv hu
      subst hv; subst hu
      exact .c _ _ ⟨wa.heap.size, upd_ρ_same, by rw [hsza]⟩
    | succ j =>
      simp only [List.getElem?_cons_succ, List.getElem?_map, Option.map_eq_some_iff] at hv
      obtain ⟨k, hk, rfl⟩ := hv
      obtain ⟨b, hb, hb'⟩ := hbs j k hk
      rw [Array.getElem?_append_right (by simp)] at hu
      simp [hb'] at hu
      subst hu
      refine .c _ _ ⟨b, ?_, rfl⟩
      rw [upd_ρ (fun e => by rw [e] at hb; rw [hid] at hb; cases hb)]; exact hb
  have hfree1 : ∀ id, st.nx + 1 ≤ id → (Γ.upd st.nx wa.heap.size none).ρ id = none := fun id h => by
    rw [upd_ρ (by omega)]; exact hc.free id (by omega)
  have hres : (resolve a.eval (rangeCall f (w.heap.size + 1)) 0).run P w1 = .ok { target := .fn (.func fid) (bs.map fun b => ptr b 0).toArray, args := #[.func (.yield (w.heap.size + 1)) #[] #[]] } w1 := by
    unfold resolve
    simp only [hfu, Deferred.ofValue]
    simp [Act.eval]
  have he : (Instr.enterLoop fn a.tmps qs ca cb (FW none).round).run P w = .ok (w.heap.size + 1, [mkD w.heap.size]) w1 := run_enterLoop_outer fn a.tmps qs ca cb
  have hinv : (invoke (Target.fn (.func fid) (bs.map fun b => ptr b 0).toArray) #[.func (.yield (w.heap.size + 1)) #[] #[]]).run P w1 = .ok (.enter fid (#[.func (.yield (w.heap.size + 1)) #[] #[]] ++ (bs.map fun b => ptr b 0).toArray)) w1 := h.1 _ _
  have hcall := h.2 _ w1 _ hst1 hfree1 hrep
  have hpost : ∀ e w', (∃ u v Γ' σ' nx', e = .returned u ∧ rangeQ st.nx st.env Q σ' nx' ∧ RepV Γ' w' v u ∧ StoreOk Γ' w' σ' ∧ Ext (st.nx + 1) (Γ.upd st.nx wa.heap.size none) w1 ((st.nx, .lp st.env .ready none (RR P N ps la lb)) :: st.σ) Γ' w' σ' ∧ (∀ id, nx' ≤ id → Γ'.ρ id = none) ∧ st.nx + 1 ≤ nx') →
      rangePost (FW none) n P (w.heap.size + 1) (Post N B0 base Γ0 w0 σ0 Q) { a with defers := [mkD w.heap.size] ++ a.defers } e w' := by
    rintro e w' ⟨u, v, Γ', σ', nx', rfl, hR, hv, hst', hext', hfree', hle'⟩
    obtain ⟨env', s, j, R, hlp, hsb, hj⟩ := rangeQ_iff hR
    obtain ⟨b, r, hb, hh, hs, hjr, _, _⟩ := lp_rec hst' hlp
    have hb1 : b = w.heap.size + 1 := by
      rw [hext'.ρ st.nx (Nat.lt_succ_self _), upd_ρ_same] at hb
      cases hb; rw [hsza]
    subst hb1
    have hend := run_endLoop (P := P) hh (by rw [hs]; exact hsb)
    let w4 := w'.putObj (w.heap.size + 1) (.loop { r with state := .exhausted })
    obtain ⟨hst4, hext4⟩ := set_lp (s' := .exhausted) (j' := r.pending) hst' hlp hb hh
    have hsub : Sub (del σ' st.nx) (set σ' st.nx (.lp env' .exhausted r.pending R)) := fun id x hx => by
      by_cases he : id = st.nx
      · subst he; rw [get_del_same] at hx; cases hx
      · rw [get_del_other he] at hx; rw [get_set_other he]; exact hx
    have hst5 : StoreOk Γ' w4 (del σ' st.nx) := hst4.sub hsub
    have hE : Ext st.nx Γ wa st.σ Γ' w4 (del σ' st.nx) := by
      have h1 := (hext1.trans (hext'.mono (Nat.le_succ _))).trans (hext4 st.nx)
      exact ⟨h1.os, h1.tape, h1.output, h1.size, h1.im, h1.new, h1.ρ, h1.κ, h1.keep, fun k hk => h1.live k (live_sub hsub hk)⟩
    have hEw : Ext st.nx Γ w st.σ Γ' w4 (del σ' st.nx) := hexta.trans hE
    have hle : CxLe Γ Γ' := ext_cxle hEw hc.free
    have hsame := hEw.same hc.ok
    have hconc : Conc N B0 base Γ' w4 ⟨st.env, del σ' st.nx, nx'⟩ { a with defers := [mkD w.heap.size] ++ a.defers } := by
      refine ⟨hc.size, fun t => (hc.env t).mono hle hsame, hst5, hfree', by have := hc.le; show base ≤ nx'; omega, ?_⟩
      obtain ⟨Ds, d1, d2, d3⟩ := hc.dfs
      have hnl : ¬ Live Γ st.σ w.heap.size := fun hl => Nat.lt_irrefl _ (hc.ok.live_lt hl)
      refine ⟨w.heap.size :: Ds, by simp [d1], ⟨List.nodup_cons.2 ⟨fun hm => ?_, d2.1⟩, Nat.le_trans d2.2 hEw.size⟩, fun D hD => ?_⟩
      · have := (Array.getElem?_eq_some_iff.1 (d3 _ hm).2.2.2).1; omega
      · rcases List.mem_cons.1 hD with rfl | hD
        · refine ⟨d2.2, fun hi => ?_, fun hlv => ?_, ?_⟩
          · rcases hE.new _ hi with h1 | h1 | h1
            · exact Nat.lt_irrefl _ (hc.ok.im _ h1)
            · omega
            · exact hnl h1
          · rcases hE.live _ hlv with h1 | h1
            · exact hnl h1
            · omega
          · rw [hE.keep _ (by omega) hnl]; exact heap_alloc_new' _ _
        · obtain ⟨d4, d5, d6, d7⟩ := d3 D hD
          have hlt : D < w.heap.size := (Array.getElem?_eq_some_iff.1 d7).1
          refine ⟨d4, fun hi => ?_, fun hlv => ?_, (hEw.keep D hlt d6).trans d7⟩
          · rcases hEw.new D hi with h1 | h1 | h1
            · exact d5 h1
            · omega
            · exact d6 h1
          · rcases hEw.live D hlv with h1 | h1
            · exact d6 h1
            · omega
    have hEx : Ext base Γ0 w0 σ0 Γ' w4 (del σ' st.nx) := hext.trans (hEw.mono hc.le)
    refine ⟨r.pending, w4, hend, ?_⟩
    rcases hj with ⟨rfl, hq⟩ | ⟨rfl, hq⟩ | ⟨k, rfl, hq⟩
    · rw [hjr]; exact ⟨Γ', _, hconc, hEx, hq⟩
    · rw [hjr]; exact wpIn_ret ⟨Γ', _, hconc, hEx, hq⟩
    · rw [hjr]; exact wpIn_exit ⟨Γ', _, hconc, hEx, hq⟩
  exact ⟨w.heap.size + 1, [mkD w.heap.size], w1, _, w1, fid, _, w1, he, hres, fun _ _ => trivial, hinv, fun h => by simp [FW, Fence.wide] at h, Calls.fw (hcall.mono hpost)⟩
end
end Go.Pw
set_option linter.unusedVariables false
set_option linter.unusedSectionVars false
namespace Go.Pw
open Go Go.RowKit
structure FnOk (P : Program) (f : FuncId) (N : Nat) (lc : LCode) (rl : List RL) : Prop where
  ent : Ent1 P f
  ok : ∃ own fn, P.funcs[f]? = some fn ∧ lowF P own fn = some (N, lc.strip, rl)
section
variable {P : Program} [m : Mix P] {N base : Nat}
theorem Sat.of {x : LCode} {st : St} {Q : Exit → St → Prop} (h : wp P N base x st Q) : Sat P N base x.strip st Q := wp_spec x st Q h
theorem SatL.go {x : LCode} {st : St} {Q : Exit → St → Prop} (h : wp P N base x st Q) : SatL P N base x st Q := ⟨wp_spec x st Q h⟩
theorem PFD.of {f : FuncId} {lc : LCode} {rl : List RL} {args vs : List V} (hf : FnOk P f N lc rl) (hN : Nat.ble args.length N = true) (hc : cloL args)
    (h : wp P N 0 lc ⟨argEnv 0 args, [], 0⟩ (RetQ 0 rl vs [] 0)) : PFD P f args (retV vs) := by
  obtain ⟨hent, own, fn, h1, h2⟩ := hf
  exact PFD.enter vs h1 hent h2 (Nat.le_of_ble_eq_true hN) hc (Sat.of h)
def normC : C → C
  | .tru => .d (.v (.bool true))
  | .fls => .d (.v (.bool false))
  | c => c
def normA : V → V
  | .c x => .c (normC x)
  | .agg cs => .agg (cs.map normC)
  | v => v
theorem normC_eq (c : C) : CEq c (normC c) := by cases c <;> first | exact .tru | exact .fls | exact .refl _
theorem normA_eq (v : V) : VEq v (normA v) := by
  cases v with
  | c x => exact .c _ _ (normC_eq x)
  | agg cs =>
    refine .agg _ _ (by simp) (fun i x y hx hy => ?_)
    simp only [List.getElem?_map, hx, Option.map_some, Option.some.injEq] at hy
    subst hy
    exact normC_eq x
  | _ => exact .refl _
theorem ris_norm : ∀ (xs : List V), RIs xs (xs.map normA)
  | [] => .nil
  | x :: xs => .cons (normA_eq x).ri (ris_norm xs)
theorem VEqs.ris : ∀ {xs ys : List V}, VEqs xs ys → RIs xs ys
  | [], [], _ => .nil
  | x :: xs, y :: ys, h => .cons h.1.ri (VEqs.ris h.2)
  | [], _ :: _, h => h.elim
  | _ :: _, [], h => h.elim
structure Fits (env : List (Nat × V)) (xs : List Operand) (args : List V) : Prop where
  h : RIs (xs.map (evo env)) args
theorem Fits.eq {env : List (Nat × V)} {xs : List Operand} {args : List V} (h : (xs.map (evo env)).map normA = args) : Fits env xs args := ⟨h ▸ ris_norm _⟩
theorem Fits.veq {env : List (Nat × V)} {xs : List Operand} {args : List V} (h : VEqs (xs.map (evo env)) args) : Fits env xs args := ⟨h.ris⟩
theorem Ops.pc {dst : Option Nat} {fop : Operand} {xs : List Operand} {g : Option (Nat × Bool)} {rest : List LIns} {env : List (Nat × V)} {σ : Store} {nx : Nat} {K : St → Prop} {f : FuncId} {args : List V} {v : V} (hf : evo env fop = .c (.fn f [])) (ha : Fits env xs args) (hc : PFD P f args v)
    (hg : guardOf env g = .run) (h : putK dst v env fun env' => wpOps P N base rest env' σ nx none K) : OpsL P N base (⟨dst, .call fop xs, g⟩ :: rest) ⟨env, σ, nx⟩ K := by
  rw [putK_eq] at h
  exact ⟨Ops.pcall (i := ⟨dst, .call fop xs, g⟩) (st := ⟨env, σ, nx⟩) hg rfl hf ha.h hc (Ops.wp h)⟩
theorem OpsD.pc {M : List Nat} {acc : List (Bool × List Nat)} {dst : Option Nat} {fop : Operand} {xs : List Operand} {g : Option (Nat × Bool)} {rest : List LIns} {env : List (Nat × V)} {σ : Store} {nx : Nat} {K : St → Prop} {f : FuncId} {args : List V} {v : V} (hf : evo env fop = .c (.fn f [])) (ha : Fits env xs args) (hc : PFD P f args v)
    (hg : guardOf env g = .run) (h : putK dst v env fun env' => wpD P N base M rest env' σ nx none ((false, []) :: acc) K) : OpsDL P N base M (⟨dst, .call fop xs, g⟩ :: rest) ⟨env, σ, nx⟩ acc K := by
  rw [putK_eq] at h
  exact ⟨OpsD.pcall (k := 0) (ks := []) (i := ⟨dst, .call fop xs, g⟩) (st := ⟨env, σ, nx⟩) hg rfl hf ha.h hc (OpsD.wp h)⟩
theorem Ops.pcR {dst : Option Nat} {fop : Operand} {xs : List Operand} {g : Option (Nat × Bool)} {rest : List LIns} {env : List (Nat × V)} {σ : Store} {nx : Nat} {K : St → Prop} {f : FuncId} {rows : List (List D)} {args : List V} {v : V} (hf : evo env fop = .c (.fnR f rows)) (ha : RIs (xs.map (evo env) ++ rows.map fun r => .c (.rp r)) args) (hc : PFD P f args v)
    (hg : guardOf env g = .run) (h : putK dst v env fun env' => wpOps P N base rest env' σ nx none K) : OpsL P N base (⟨dst, .call fop xs, g⟩ :: rest) ⟨env, σ, nx⟩ K := by
  rw [putK_eq] at h
  exact ⟨Ops.pcallR (i := ⟨dst, .call fop xs, g⟩) (st := ⟨env, σ, nx⟩) hg rfl hf ha hc (Ops.wp h)⟩
theorem Ops.pcB {dst : Option Nat} {fop : Operand} {xs : List Operand} {g : Option (Nat × Bool)} {rest : List LIns} {env : List (Nat × V)} {σ : Store} {nx : Nat} {K : St → Prop} {f : FuncId} {ds : List D} {args : List V} {v : V} (hf : evo env fop = .c (.fnB f ds)) (ha : RIs (.agg (ds.map .d) :: xs.map (evo env)) args) (hc : PFD P f args v)
    (hg : guardOf env g = .run) (h : putK dst v env fun env' => wpOps P N base rest env' σ nx none K) : OpsL P N base (⟨dst, .call fop xs, g⟩ :: rest) ⟨env, σ, nx⟩ K := by
  rw [putK_eq] at h
  exact ⟨Ops.pcallB (i := ⟨dst, .call fop xs, g⟩) (st := ⟨env, σ, nx⟩) hg rfl hf ha hc (Ops.wp h)⟩
theorem OpsD.pcR {M : List Nat} {acc : List (Bool × List Nat)} {dst : Option Nat} {fop : Operand} {xs : List Operand} {g : Option (Nat × Bool)} {rest : List LIns} {env : List (Nat × V)} {σ : Store} {nx : Nat} {K : St → Prop} {f : FuncId} {rows : List (List D)} {args : List V} {v : V} (hf : evo env fop = .c (.fnR f rows)) (ha : RIs (xs.map (evo env) ++ rows.map fun r => .c (.rp r)) args) (hc : PFD P f args v)
    (hg : guardOf env g = .run) (h : putK dst v env fun env' => wpD P N base M rest env' σ nx none ((false, []) :: acc) K) : OpsDL P N base M (⟨dst, .call fop xs, g⟩ :: rest) ⟨env, σ, nx⟩ acc K := by
  rw [putK_eq] at h
  exact ⟨OpsD.pcallR (k := 0) (ks := []) (i := ⟨dst, .call fop xs, g⟩) (st := ⟨env, σ, nx⟩) hg rfl hf ha hc (OpsD.wp h)⟩
theorem OpsD.pcB {M : List Nat} {acc : List (Bool × List Nat)} {dst : Option Nat} {fop : Operand} {xs : List Operand} {g : Option (Nat × Bool)} {rest : List LIns} {env : List (Nat × V)} {σ : Store} {nx : Nat} {K : St → Prop} {f : FuncId} {ds : List D} {args : List V} {v : V} (hf : evo env fop = .c (.fnB f ds)) (ha : RIs (.agg (ds.map .d) :: xs.map (evo env)) args) (hc : PFD P f args v)
    (hg : guardOf env g = .run) (h : putK dst v env fun env' => wpD P N base M rest env' σ nx none ((false, []) :: acc) K) : OpsDL P N base M (⟨dst, .call fop xs, g⟩ :: rest) ⟨env, σ, nx⟩ acc K := by
  rw [putK_eq] at h
  exact ⟨OpsD.pcallB (k := 0) (ks := []) (i := ⟨dst, .call fop xs, g⟩) (st := ⟨env, σ, nx⟩) hg rfl hf ha hc (OpsD.wp h)⟩
theorem OpsL.same {ops : List LIns} {st : St} {K : St → Prop} (h : OpsL P N base ops st K) : OpsL P N base ops st K := h
theorem OpsDL.same {M : List Nat} {ops : List LIns} {st : St} {acc : List (Bool × List Nat)} {K : St → Prop} (h : OpsDL P N base M ops st acc K) : OpsDL P N base M ops st acc K := h
theorem Fork.same {b : Bool} {p q : Prop} (h : Fork b p q) : Fork b p q := h
def frV (v : V) (k : V → Prop) : Prop :=
  match v with
  | .c x => k (.c x)
  | .agg cs => k (.agg cs)
  | .tup vs => k (.tup vs)
  | .unk => k .unk
theorem frV_eq (v : V) (k : V → Prop) : frV v k = k v := by cases v <;> rfl
def argK : Nat → List V → (List (Nat × V) → Prop) → Prop
  | _, [], k => k []
  | n, v :: vs, k => frV v fun v => frNat (n + 1) fun n' => argK n' vs fun e => k ((n, v) :: e)
theorem argK_eq : ∀ (vs : List V) (n : Nat) (k : List (Nat × V) → Prop), argK n vs k = k (argEnv n vs)
  | [], n, k => rfl
  | v :: vs, n, k => by simp only [argK, frV_eq, frNat_eq, argK_eq vs, argEnv]
def callQ (rl : List RL) (R : V → Store → Nat → Prop) : Exit → St → Prop
  | .normal, st => match resAll st.env st.σ rl with
    | some vs => R (retV vs) st.σ st.nx
    | none => False
  | .ret, st => match resAll st.env st.σ rl with
    | some vs => R (retV vs) st.σ st.nx
    | none => False
  | _, _ => False
theorem CallS.of {f : FuncId} {lc : LCode} {rl : List RL} {args : List V} {σ : Store} {nx : Nat} {R : V → Store → Nat → Prop} (hf : FnOk P f N lc rl) (hN : Nat.ble args.length N = true)
    (h : argK 0 args fun env => wp P N nx lc ⟨env, σ, nx⟩ (callQ rl R)) : CallS P f args σ nx R := by
  rw [argK_eq] at h
  obtain ⟨hent, own, fn, h1, h2⟩ := hf
  refine CallS.enter h1 hent h2 (Nat.le_of_ble_eq_true hN) ((Sat.of h).mono fun e st h => ?_)
  unfold callQ at h
  split at h
  · split at h
    · rename_i vs hv; exact ⟨.inl rfl, vs, hv, h⟩
    · exact h.elim
  · split at h
    · rename_i vs hv; exact ⟨.inr rfl, vs, hv, h⟩
    · exact h.elim
  · exact h.elim
theorem Ops.cs {dst : Option Nat} {fop : Operand} {xs : List Operand} {g : Option (Nat × Bool)} {rest : List LIns} {env : List (Nat × V)} {σ : Store} {nx : Nat} {K : St → Prop} {f : FuncId} {ids : List Nat} (hf : evo env fop = .c (.fn f ids)) (hg : guardOf env g = .run)
    (h : CallS P f (xs.map (evo env) ++ ids.map fun k => .c (.bp k 0)) σ nx fun v σ' nx' => frV v fun v => frNat nx' fun nx' => putK dst v env fun env' => wpOps P N base rest env' σ' nx' none K) : OpsL P N base (⟨dst, .call fop xs, g⟩ :: rest) ⟨env, σ, nx⟩ K := by
  refine ⟨?_⟩
  refine Ops.callS (i := ⟨dst, .call fop xs, g⟩) (st := ⟨env, σ, nx⟩) hg rfl hf ?_
  simp only [frV_eq, frNat_eq, putK_eq] at h
  exact ⟨h.1, fun Γ w us h1 h2 h3 => (h.2 Γ w us h1 h2 h3).mono fun e w' ⟨u, v, Γ', σ', nx', q1, q2, q3⟩ => ⟨u, v, Γ', σ', nx', q1, Ops.wp q2, q3⟩⟩
structure Again0 {ι : Type} (inv : ι → List (Nat × V)) (pre : ι → Prop) (μ : ι → Nat) (i : ι) (st : St) : Prop where
  h : ∃ j, pre j ∧ μ j < μ i ∧ envIs st.env (inv j)
def lpQ0 {ι : Type} (inv : ι → List (Nat × V)) (pre : ι → Prop) (μ : ι → Nat) (i : ι) (Q : Exit → St → Prop) : Exit → St → Prop
  | .normal, st => Again0 inv pre μ i st
  | e, st => Q e st
structure Again {ι : Type} (base : Nat) (inv : ι → St) (pre : ι → Prop) (μ : ι → Nat) (i : ι) (st : St) : Prop where
  h : ∃ j π, pre j ∧ μ j < μ i ∧ Wk base st (inv j) π
def lpQ {ι : Type} (base : Nat) (inv : ι → St) (pre : ι → Prop) (μ : ι → Nat) (i : ι) (Q : Exit → St → Prop) : Exit → St → Prop
  | .normal, st => Again base inv pre μ i st
  | e, st => Q e st
theorem Sat.lp0 {x : LCode} {st : St} {Q : Exit → St → Prop} {ι : Type} (inv : ι → List (Nat × V)) (pre : ι → Prop) (μ : ι → Nat) (i0 : ι) (h0 : pre i0) (hw : envIs st.env (inv i0))
    (round : ∀ i, pre i → wp P N base x ⟨inv i, [], base⟩ (lpQ0 inv pre μ i Q)) : SatL P N base (.loop x) st Q :=
  ⟨Sat.loop0 inv pre μ i0 h0 hw fun i hi => (Sat.of (round i hi)).mono fun e st h => by
    cases e with
    | normal => exact h.h
    | _ => exact h⟩
def nmAt (base : Nat) (l : List Nat) (i : Nat) : Nat :=
  match Nat.ble base i with
  | true => l.getD (i - base) i
  | false => i
def distinct : List Nat → Bool
  | [] => true
  | x :: l => !(memN x l) && distinct l
def geAll (base : Nat) : List Nat → Bool
  | [] => true
  | x :: l => Nat.ble base x && geAll base l
def nmOk (base nx0 : Nat) (l : List Nat) : Bool := Nat.ble base nx0 && Nat.ble nx0 (base + l.length) && distinct l && geAll base l
theorem distinct_inj : ∀ {l : List Nat}, distinct l = true → ∀ (i j x : Nat), l[i]? = some x → l[j]? = some x → i = j
  | [], _, i, j, x, h, _ => by simp at h
  | y :: l, hd, i, j, x, hi, hj => by
    simp only [distinct, Bool.and_eq_true, Bool.not_eq_true'] at hd
    have hn : y ∉ l := fun h => by rw [memN_iff.2 h] at hd; cases hd.1
    cases i with
    | zero =>
      cases j with
      | zero => rfl
      | succ j =>
        simp only [List.getElem?_cons_zero, Option.some.injEq] at hi
        subst hi
        exact absurd (List.mem_of_getElem? (by simpa using hj)) hn
    | succ i =>
      cases j with
      | zero =>
        simp only [List.getElem?_cons_zero, Option.some.injEq] at hj
        subst hj
        exact absurd (List.mem_of_getElem? (by simpa using hi)) hn
      | succ j => rw [distinct_inj hd.2 i j x (by simpa using hi) (by simpa using hj)]
theorem geAll_get : ∀ {base : Nat} {l : List Nat}, geAll base l = true → ∀ x ∈ l, base ≤ x
  | _, [], _, x, h => by cases h
  | base, y :: l, hd, x, h => by
    simp only [geAll, Bool.and_eq_true] at hd
    rcases List.mem_cons.1 h with rfl | h
    · exact Nat.le_of_ble_eq_true hd.1
    · exact geAll_get hd.2 x h
theorem nmAt_lo {l : List Nat} {i : Nat} (h : i < base) : nmAt base l i = i := by
  unfold nmAt
  split
  · rename_i hb; have := Nat.le_of_ble_eq_true hb; omega
  · rfl
theorem nmAt_hi {l : List Nat} {i : Nat} (h : base ≤ i) : nmAt base l i = l.getD (i - base) i := by
  unfold nmAt
  split
  · rfl
  · rename_i hb; rw [Nat.ble_eq_true_of_le h] at hb; cases hb
def cLtB (n : Nat) : C → Bool
  | .fn _ ids => ltAll n ids
  | .bp id _ => Nat.blt id n
  | .ep id _ _ _ => Nat.blt id n
  | .ms id _ => Nat.blt id n
  | .yd id => Nat.blt id n
  | .mp id => Nat.blt id n
  | .sb id _ => Nat.blt id n
  | _ => true
  where ltAll (n : Nat) : List Nat → Bool
  | [] => true
  | i :: is => Nat.blt i n && ltAll n is
def csLtB (n : Nat) : List C → Bool
  | [] => true
  | c :: cs => cLtB n c && csLtB n cs
def vLtB (n : Nat) : V → Bool
  | .c x => cLtB n x
  | .agg cs => csLtB n cs
  | .tup _ => false
  | .unk => true
def envLtB (n : Nat) : List (Nat × V) → Bool
  | [] => true
  | (_, v) :: e => vLtB n v && envLtB n e
def eLtB (n : Nat) : Ent → Bool
  | .box cs => csLtB n cs
  | .row .. => true
  | .lp env _ _ _ => envLtB n env
  | .mp .. => true
def stoLtB (n : Nat) : Store → Bool
  | [] => true
  | (i, e) :: σ => Nat.blt i n && eLtB n e && stoLtB n σ
theorem blt_iff {a b : Nat} : Nat.blt a b = true ↔ a < b := by simp [Nat.blt_eq]
theorem ltAll_sound {n : Nat} : ∀ {l : List Nat}, cLtB.ltAll n l = true → ∀ i ∈ l, i < n
  | [], _, i, h => by cases h
  | x :: l, h, i, hi => by
    simp only [cLtB.ltAll, Bool.and_eq_true] at h
    rcases List.mem_cons.1 hi with rfl | hi
    · exact blt_iff.1 h.1
    · exact ltAll_sound h.2 i hi
theorem cLtB_sound {n : Nat} {c : C} (h : cLtB n c = true) : cLt n c := by
  cases c with
  | fn f ids => exact fun i hi => ltAll_sound h i hi
  | bp | ep | ms | yd | mp | sb => exact blt_iff.1 h
  | _ => trivial
theorem csLtB_sound {n : Nat} : ∀ {cs : List C}, csLtB n cs = true → csLt n cs
  | [], _ => trivial
  | c :: cs, h => by simp only [csLtB, Bool.and_eq_true] at h; exact ⟨cLtB_sound h.1, csLtB_sound h.2⟩
theorem vLtB_sound {n : Nat} {v : V} (h : vLtB n v = true) : vLt n v := by
  cases v with
  | c x => exact cLtB_sound h
  | agg cs => exact csLtB_sound h
  | tup => cases h
  | unk => trivial
theorem envLtB_sound {n : Nat} : ∀ {e : List (Nat × V)}, envLtB n e = true → envLt n e
  | [], _ => trivial
  | (_, v) :: e, h => by simp only [envLtB, Bool.and_eq_true] at h; exact ⟨vLtB_sound h.1, envLtB_sound h.2⟩
theorem eLtB_sound {n : Nat} {e : Ent} (h : eLtB n e = true) : eLt n e := by
  cases e with
  | box cs => exact csLtB_sound h
  | row => trivial
  | lp => exact envLtB_sound h
  | mp => trivial
def envEq (π : Nat → Nat) (env : List (Nat × V)) : List (Nat × V) → Prop
  | [] => True
  | (t, v) :: e0 => VEq (lk env t) (rnV π v) ∧ envEq π env e0
def stoEq (π : Nat → Nat) (σ : Store) : Store → Prop
  | [] => True
  | (id, x) :: σ0 => (match get σ (π id) with | some y => EEq y (rnE π x) | none => False) ∧ stoEq π σ σ0
theorem envEq.ok {n : Nat} {π : Nat → Nat} {env : List (Nat × V)} : ∀ {e0 : List (Nat × V)}, envLtB n e0 = true → envEq π env e0 → envOk n π env e0
  | [], _, _ => trivial
  | (t, v) :: e0, hl, h => by
    simp only [envLtB, Bool.and_eq_true] at hl
    exact ⟨⟨h.1, vLtB_sound hl.1⟩, envEq.ok hl.2 h.2⟩
theorem stoEq.ok {n : Nat} {π : Nat → Nat} {σ : Store} : ∀ {σ0 : Store}, stoLtB n σ0 = true → stoEq π σ σ0 → stoOk n π σ σ0
  | [], _, _ => stoOk.nil
  | (id, x) :: σ0, hl, h => by
    simp only [stoLtB, Bool.and_eq_true] at hl
    refine stoOk.cons (blt_iff.1 hl.1.1) (eLtB_sound hl.1.2) ?_ (stoEq.ok hl.2 h.2)
    have := h.1
    split at this
    · rename_i y hy; exact ⟨y, hy, this⟩
    · exact this.elim
structure Is (base : Nat) (st st0 : St) (l : List Nat) : Prop where
  nm : (nmOk base st0.nx l && envLtB st0.nx st0.env && stoLtB st0.nx st0.σ) = true
  env : envEq (nmAt base l) st.env st0.env
  sto : stoEq (nmAt base l) st.σ st0.σ
theorem Is.wk {st st0 : St} {l : List Nat} (h : Is base st st0 l) : Wk base st st0 (nmAt base l) := by
  have h1 := h.nm
  simp only [nmOk, Bool.and_eq_true] at h1
  obtain ⟨⟨⟨⟨⟨a1, a2⟩, a3⟩, a4⟩, a5⟩, a6⟩ := h1
  have a1 := Nat.le_of_ble_eq_true a1
  have a2 := Nat.le_of_ble_eq_true a2
  have hget : ∀ i, base ≤ i → i < st0.nx → ∃ x, l[i - base]? = some x ∧ nmAt base l i = x ∧ base ≤ x := fun i h1 h2 => by
    have hlt : i - base < l.length := by omega
    refine ⟨l[i - base], by simp [hlt], ?_, geAll_get a4 _ (List.getElem_mem hlt)⟩
    rw [nmAt_hi h1, List.getD_eq_getElem?_getD, List.getElem?_eq_getElem hlt]; rfl
  refine ⟨fun i hi => nmAt_lo hi, fun i j hi hj he => ?_, a1, h.env.ok a5, h.sto.ok a6⟩
  rcases Nat.lt_or_ge i base with h1 | h1 <;> rcases Nat.lt_or_ge j base with h2 | h2
  · rw [nmAt_lo h1, nmAt_lo h2] at he; exact he
  · obtain ⟨x, _, hx, hx'⟩ := hget j h2 hj
    rw [nmAt_lo h1, hx] at he; omega
  · obtain ⟨x, _, hx, hx'⟩ := hget i h1 hi
    rw [nmAt_lo h2, hx] at he; omega
  · obtain ⟨x, hx, hx', _⟩ := hget i h1 hi
    obtain ⟨y, hy, hy', _⟩ := hget j h2 hj
    rw [hx', hy'] at he
    subst he
    have := distinct_inj a3 _ _ _ hx hy
    omega
theorem Sat.lp {x : LCode} {st : St} {Q : Exit → St → Prop} {ι : Type} (inv : ι → St) (pre : ι → Prop) (μ : ι → Nat) (i0 : ι) (l : List Nat) (h0 : pre i0) (hw : Is base st (inv i0) l)
    (round : ∀ i, pre i → wp P N base x (inv i) (lpQ base inv pre μ i Q)) : SatL P N base (.loop x) st Q :=
  ⟨Sat.loop inv pre μ i0 _ h0 hw.wk fun i hi => (Sat.of (round i hi)).mono fun e st h => by
    cases e with
    | normal => exact h.h
    | _ => exact h⟩
theorem again {ι : Type} {inv : ι → St} {pre : ι → Prop} {μ : ι → Nat} {i : ι} {st : St} (j : ι) (l : List Nat) (h : pre j) (hm : μ j < μ i) (hw : Is base st (inv j) l) : Again base inv pre μ i st :=
  ⟨j, _, h, hm, hw.wk⟩
theorem again0 {ι : Type} {inv : ι → List (Nat × V)} {pre : ι → Prop} {μ : ι → Nat} {i : ι} {st : St} (j : ι) (h : pre j) (hm : μ j < μ i) (hw : envIs st.env (inv j)) : Again0 inv pre μ i st :=
  ⟨j, h, hm, hw⟩
theorem Sat.rf {f : Operand} {ps : List Nat} {la lb : LCode} {fid : FuncId} {ids : List Nat} {env : List (Nat × V)} {σ : Store} {nx : Nat} {Q : Exit → St → Prop} (hf : evo env f = .c (.fn fid ids)) (hps : ps.all (fun p => decide (p < N)) = true)
    (h : frNat (nx + 1) fun nx1 => CallS P fid (.c (.yd nx) :: ids.map fun k => .c (.bp k 0)) ((nx, .lp env .ready none (RR P N ps la lb)) :: σ) nx1 fun _ σ' nx' => frNat nx' fun nx' => rangeQ nx env Q σ' nx') : SatL P N base (.rangeFunc f ps la lb) ⟨env, σ, nx⟩ Q := by
  simp only [frNat_eq] at h
  exact ⟨Sat.rangeFunc (st := ⟨env, σ, nx⟩) hf hps h⟩
def yieldQ (id : Nat) (R : Loop → Prop) (next : V → Store → Nat → Prop) : Exit → St → Prop
  | .normal, st => ∃ env2 s2 j2, get st.σ id = some (.lp env2 s2 j2 R) ∧ frS (set st.σ id (.lp env2 .ready none R)) fun σ => next (.c .tru) σ st.nx
  | .ret, st => ∃ env2 s2 j2, get st.σ id = some (.lp env2 s2 j2 R) ∧ frS (set st.σ id (.lp env2 .done (some .ret) R)) fun σ => next (.c .fls) σ st.nx
  | .exit k, st => ∃ env2 s2 j2, get st.σ id = some (.lp env2 s2 j2 R) ∧ frS (set st.σ id (.lp env2 .done (some (.exit k)) R)) fun σ => next (.c .fls) σ st.nx
  | _, _ => False
def bindK : List Nat → List V → List (Nat × V) → (List (Nat × V) → Prop) → Prop
  | p :: ps, v :: vs, env, k => frV v fun v => bindK ps vs ((p, v) :: env) k
  | _, _, env, k => k env
theorem bindK_eq : ∀ (ps : List Nat) (vs : List V) (env : List (Nat × V)) (k : List (Nat × V) → Prop), bindK ps vs env k = k (bindE ps vs env)
  | [], vs, env, k => by simp [bindK, bindE]
  | p :: ps, [], env, k => by simp [bindK, bindE]
  | p :: ps, v :: vs, env, k => by simp only [bindK, frV_eq, bindK_eq ps vs, bindE]
theorem Ops.yd {id N' : Nat} {dst : Option Nat} {fop : Operand} {xs : List Operand} {g : Option (Nat × Bool)} {rest : List LIns} {env : List (Nat × V)} {σ : Store} {nx : Nat} {K : St → Prop} {env0 : List (Nat × V)} {ps : List Nat} {la lb : LCode} (hf : evo env fop = .c (.yd id)) (hg : guardOf env g = .run)
    (hlp : get σ id = some (.lp env0 .ready none (RR P N' ps la lb))) (hlen : Nat.beq ps.length xs.length = true) (hr : (la.ranges || lb.ranges) = false)
    (h : bindK ps (xs.map (evo env)) env0 fun e => Pw.wp P N' nx la ⟨e, σ, nx⟩ fun e st1 => e = .normal ∧ ∃ env1, get st1.σ id = some (.lp env1 .ready none (RR P N' ps la lb)) ∧
      frS (set st1.σ id (.lp env1 .busy none (RR P N' ps la lb))) fun σ' => frNat st1.nx fun nx1 => Pw.wp P N' nx lb ⟨st1.env, σ', nx1⟩ (yieldQ id (RR P N' ps la lb) fun v σ' nx' => frNat nx' fun nx' => putK dst v env fun env' => wpOps P N base rest env' σ' nx' none K)) (hsa : la.strip = la := by exact rfl) (hsb : lb.strip = lb := by exact rfl) :
    OpsL P N base (⟨dst, .call fop xs, g⟩ :: rest) ⟨env, σ, nx⟩ K := by
  rw [bindK_eq] at h
  refine ⟨?_⟩
  simp only [Bool.or_eq_false_iff] at hr
  refine Ops.yield (i := ⟨dst, .call fop xs, g⟩) (st := ⟨env, σ, nx⟩) hg rfl hf hlp (Nat.eq_of_beq_eq_true hlen) hr.1 hr.2 ((hsa ▸ Sat.of h : Sat P N' nx la _ _).mono fun e st1 ⟨he, env1, h1, h2⟩ => ⟨he, env1, h1, ?_⟩)
  rw [frS_eq, frNat_eq] at h2
  refine (hsb ▸ Sat.of h2 : Sat P N' nx lb _ _).mono fun e st2 h3 => ?_
  cases e with
  | normal =>
    obtain ⟨env2, s2, j2, hg2, h4⟩ := h3
    simp only [frNat_eq, putK_eq, frS_eq] at h4
    exact ⟨env2, s2, j2, hg2, Ops.wp h4⟩
  | ret =>
    obtain ⟨env2, s2, j2, hg2, h4⟩ := h3
    simp only [frNat_eq, putK_eq, frS_eq] at h4
    exact ⟨env2, s2, j2, hg2, Ops.wp h4⟩
  | exit k =>
    obtain ⟨env2, s2, j2, hg2, h4⟩ := h3
    simp only [frNat_eq, putK_eq, frS_eq] at h4
    exact ⟨env2, s2, j2, hg2, Ops.wp h4⟩
  | _ => exact h3.elim
end
end Go.Pw
set_option linter.unusedVariables false
namespace Go.Pw
open Go Go.RowKit
abbrev dI (n : Int) : D := .v (.int .i64 n)
abbrev int (n : Int) : C := .d (.v (.int .i64 n))
abbrev r1 (n : Int) : List D := [dI n]
abbrev r2 (p : Int × Int) : List D := [dI p.1, dI p.2]
abbrev r3 (p : Int × Int × Int) : List D := [dI p.1, dI p.2.1, dI p.2.2]
abbrev slv {α : Type} (s : Nat) (row : α → List D) (d : α) (l : List α) : C := .d (.sl s l.length fun i => row (l.getD i d))
abbrev ints (l : List Int) : C := slv 1 r1 0 l
abbrev prs (l : List (Int × Int)) : C := slv 2 r2 (0, 0) l
abbrev trs (l : List (Int × Int × Int)) : C := slv 3 r3 (0, 0, 0) l
abbrev rowv {α : Type} (e : TypeId) (s : Nat) (row : α → List D) (d : α) (l : List α) : Ent := .row e s l.length (fun i => row (l.getD i d)) false
theorem VEq.ms {id n m : Nat} (h : n = m) : VEq (.c (.ms id n)) (.c (.ms id m)) := by subst h; exact .refl _
theorem CEq.ms {id n m : Nat} (h : n = m) : CEq (.ms id n) (.ms id m) := by subst h; exact .refl _
theorem CEq.int {k : IntKind} {a b : Int} (h : a = b) : CEq (.d (.v (.int k a))) (.d (.v (.int k b))) := by subst h; exact .refl _
theorem CEq.sl {s n m : Nat} {f g : Nat → List D} (hn : n = m) (h : ∀ i, i < n → f i = g i) : CEq (.d (.sl s n f)) (.d (.sl s m g)) := by subst hn; exact .d _ _ (.sl _ _ _ _ h)
theorem CEq.nil {s : Nat} {g : Nat → List D} : CEq (.d (.v (.slice none 0 0))) (.d (.sl s 0 g)) := .d _ _ (.nil s g)
theorem VEq.nil {s : Nat} {g : Nat → List D} : VEq (.c (.d (.v (.slice none 0 0)))) (.c (.d (.sl s 0 g))) := .c _ _ .nil
theorem VEq.sll {α : Type} {s : Nat} {row : α → List D} {d : α} {l m : List α} (h : l = m) : VEq (.c (slv s row d l)) (.c (slv s row d m)) := by subst h; exact .refl _
theorem CEq.sll {α : Type} {s : Nat} {row : α → List D} {d : α} {l m : List α} (h : l = m) : CEq (slv s row d l) (slv s row d m) := by subst h; exact .refl _
def CEqs : List C → List C → Prop
  | [], [] => True
  | x :: xs, y :: ys => CEq x y ∧ CEqs xs ys
  | _, _ => False
theorem CEqs.length : ∀ {xs ys : List C}, CEqs xs ys → xs.length = ys.length
  | [], [], _ => rfl
  | x :: xs, y :: ys, h => by simp [CEqs.length h.2]
  | [], _ :: _, h => h.elim
  | _ :: _, [], h => h.elim
theorem CEqs.get : ∀ {xs ys : List C}, CEqs xs ys → ∀ (i : Nat) x y, xs[i]? = some x → ys[i]? = some y → CEq x y
  | [], [], _, i, x, y, h, _ => by simp at h
  | a :: xs, b :: ys, h, i, x, y, hx, hy => by
    cases i with
    | zero => simp at hx hy; subst hx; subst hy; exact h.1
    | succ i => exact CEqs.get h.2 i x y (by simpa using hx) (by simpa using hy)
  | [], _ :: _, h, _, _, _, _, _ => h.elim
  | _ :: _, [], h, _, _, _, _, _ => h.elim
theorem EEq.boxs {xs ys : List C} (h : CEqs xs ys) : EEq (.box xs) (.box ys) := .box xs ys h.length h.get
theorem VEq.aggs {xs ys : List C} (h : CEqs xs ys) : VEq (.agg xs) (.agg ys) := .agg xs ys h.length h.get
theorem EEq.same (x : Ent) : EEq x x := by
  cases x with
  | box xs => exact .box _ _ rfl fun i x y hx hy => by rw [hx] at hy; cases hy; exact .refl _
  | row => exact .row _ _ _ _ _ _ fun _ _ => rfl
  | lp => exact .lp _ _ _ _ _ fun _ => .refl _
  | mp m es => exact .mp m es
theorem EEq.rowl {e : TypeId} {s n m : Nat} {f g : Nat → List D} {fz : Bool} (hn : n = m) (h : ∀ i, i < n → f i = g i) : EEq (.row e s n f fz) (.row e s m g fz) := by subst hn; exact .row _ _ _ _ _ _ h
theorem row_app {α : Type} {row : α → List D} {d : α} {l : List α} {x : α} {r : List D} (h : r = row x) (i : Nat) (hi : i < l.length + 1) : (if i < l.length then row (l.getD i d) else ([r].getD (i - l.length) [])) = row ((l ++ [x]).getD i d) := by
  subst h
  by_cases hlt : i < l.length
  · rw [if_pos hlt, List.getD_eq_getElem?_getD, List.getD_eq_getElem?_getD, List.getElem?_append_left hlt]
  · have : i = l.length := by omega
    subst this
    simp
theorem EEq.app {α : Type} {e : TypeId} {s : Nat} {row : α → List D} {d : α} {l l' : List α} (x : α) {r : List D} (h : r = row x) (hl : l' = l ++ [x]) : EEq (.row e s (l.length + 1) (fun i => if i < l.length then row (l.getD i d) else ([r].getD (i - l.length) [])) false) (rowv e s row d l') := by
  subst hl
  exact EEq.rowl (by simp) fun i hi => row_app h i hi
theorem EEq.one {α : Type} {e : TypeId} {s : Nat} {row : α → List D} {d : α} {l' : List α} (x : α) {r : List D} (h : r = row x) (hl : l' = [x]) : EEq (.row e s 1 (fun i => [r].getD i []) false) (rowv e s row d l') := by
  subst hl
  subst h
  exact EEq.rowl rfl fun i hi => by
    have : i = 0 := by omega
    subst this; rfl
theorem EEq.app1 {e : TypeId} {l l' : List Int} {a : Int} (hl : l' = l ++ [a]) : EEq (.row e 1 (l.length + 1) (fun i => if i < l.length then r1 (l.getD i 0) else ([[dI a]].getD (i - l.length) [])) false) (rowv e 1 r1 0 l') := EEq.app a rfl hl
theorem EEq.app2 {e : TypeId} {l l' : List (Int × Int)} {a b : Int} (hl : l' = l ++ [(a, b)]) : EEq (.row e 2 (l.length + 1) (fun i => if i < l.length then r2 (l.getD i (0, 0)) else ([[dI a, dI b]].getD (i - l.length) [])) false) (rowv e 2 r2 (0, 0) l') := EEq.app (a, b) rfl hl
theorem EEq.app3 {e : TypeId} {l l' : List (Int × Int × Int)} {a b c : Int} (hl : l' = l ++ [(a, b, c)]) : EEq (.row e 3 (l.length + 1) (fun i => if i < l.length then r3 (l.getD i (0, 0, 0)) else ([[dI a, dI b, dI c]].getD (i - l.length) [])) false) (rowv e 3 r3 (0, 0, 0) l') := EEq.app (a, b, c) rfl hl
theorem CEq.li_1 {a0 : Int} : CEq (.d (.sl 1 [[dI a0]].length fun i => [[dI a0]].getD i [])) (ints [a0]) := CEq.sl rfl (fun i hi => by
  rcases i with _ | i
  · rfl
  exact absurd hi (by simp only [List.length_cons, List.length_nil]; omega))
theorem VEq.li_1 {a0 : Int} : VEq (.c (.d (.sl 1 [[dI a0]].length fun i => [[dI a0]].getD i []))) (.c (ints [a0])) := .c _ _ CEq.li_1
theorem CEq.li_2 {a0 a1 : Int} : CEq (.d (.sl 1 [[dI a0], [dI a1]].length fun i => [[dI a0], [dI a1]].getD i [])) (ints [a0, a1]) := CEq.sl rfl (fun i hi => by
  rcases i with _ | i
  · rfl
  rcases i with _ | i
  · rfl
  exact absurd hi (by simp only [List.length_cons, List.length_nil]; omega))
theorem VEq.li_2 {a0 a1 : Int} : VEq (.c (.d (.sl 1 [[dI a0], [dI a1]].length fun i => [[dI a0], [dI a1]].getD i []))) (.c (ints [a0, a1])) := .c _ _ CEq.li_2
theorem CEq.li_3 {a0 a1 a2 : Int} : CEq (.d (.sl 1 [[dI a0], [dI a1], [dI a2]].length fun i => [[dI a0], [dI a1], [dI a2]].getD i [])) (ints [a0, a1, a2]) := CEq.sl rfl (fun i hi => by
  rcases i with _ | i
  · rfl
  rcases i with _ | i
  · rfl
  rcases i with _ | i
  · rfl
  exact absurd hi (by simp only [List.length_cons, List.length_nil]; omega))
theorem VEq.li_3 {a0 a1 a2 : Int} : VEq (.c (.d (.sl 1 [[dI a0], [dI a1], [dI a2]].length fun i => [[dI a0], [dI a1], [dI a2]].getD i []))) (.c (ints [a0, a1, a2])) := .c _ _ CEq.li_3
theorem CEq.li_4 {a0 a1 a2 a3 : Int} : CEq (.d (.sl 1 [[dI a0], [dI a1], [dI a2], [dI a3]].length fun i => [[dI a0], [dI a1], [dI a2], [dI a3]].getD i [])) (ints [a0, a1, a2, a3]) := CEq.sl rfl (fun i hi => by
  rcases i with _ | i
  · rfl
  rcases i with _ | i
  · rfl
  rcases i with _ | i
  · rfl
  rcases i with _ | i
  · rfl
  exact absurd hi (by simp only [List.length_cons, List.length_nil]; omega))
theorem VEq.li_4 {a0 a1 a2 a3 : Int} : VEq (.c (.d (.sl 1 [[dI a0], [dI a1], [dI a2], [dI a3]].length fun i => [[dI a0], [dI a1], [dI a2], [dI a3]].getD i []))) (.c (ints [a0, a1, a2, a3])) := .c _ _ CEq.li_4
theorem CEq.lp_1 {a0 b0 : Int} : CEq (.d (.sl 2 [[dI a0, dI b0]].length fun i => [[dI a0, dI b0]].getD i [])) (prs [(a0, b0)]) := CEq.sl rfl (fun i hi => by
  rcases i with _ | i
  · rfl
  exact absurd hi (by simp only [List.length_cons, List.length_nil]; omega))
theorem VEq.lp_1 {a0 b0 : Int} : VEq (.c (.d (.sl 2 [[dI a0, dI b0]].length fun i => [[dI a0, dI b0]].getD i []))) (.c (prs [(a0, b0)])) := .c _ _ CEq.lp_1
theorem CEq.lp_2 {a0 b0 a1 b1 : Int} : CEq (.d (.sl 2 [[dI a0, dI b0], [dI a1, dI b1]].length fun i => [[dI a0, dI b0], [dI a1, dI b1]].getD i [])) (prs [(a0, b0), (a1, b1)]) := CEq.sl rfl (fun i hi => by
  rcases i with _ | i
  · rfl
  rcases i with _ | i
  · rfl
  exact absurd hi (by simp only [List.length_cons, List.length_nil]; omega))
theorem VEq.lp_2 {a0 b0 a1 b1 : Int} : VEq (.c (.d (.sl 2 [[dI a0, dI b0], [dI a1, dI b1]].length fun i => [[dI a0, dI b0], [dI a1, dI b1]].getD i []))) (.c (prs [(a0, b0), (a1, b1)])) := .c _ _ CEq.lp_2
theorem CEq.lp_3 {a0 b0 a1 b1 a2 b2 : Int} : CEq (.d (.sl 2 [[dI a0, dI b0], [dI a1, dI b1], [dI a2, dI b2]].length fun i => [[dI a0, dI b0], [dI a1, dI b1], [dI a2, dI b2]].getD i [])) (prs [(a0, b0), (a1, b1), (a2, b2)]) := CEq.sl rfl (fun i hi => by
  rcases i with _ | i
  · rfl
  rcases i with _ | i
  · rfl
  rcases i with _ | i
  · rfl
  exact absurd hi (by simp only [List.length_cons, List.length_nil]; omega))
theorem VEq.lp_3 {a0 b0 a1 b1 a2 b2 : Int} : VEq (.c (.d (.sl 2 [[dI a0, dI b0], [dI a1, dI b1], [dI a2, dI b2]].length fun i => [[dI a0, dI b0], [dI a1, dI b1], [dI a2, dI b2]].getD i []))) (.c (prs [(a0, b0), (a1, b1), (a2, b2)])) := .c _ _ CEq.lp_3
theorem CEq.lp_4 {a0 b0 a1 b1 a2 b2 a3 b3 : Int} : CEq (.d (.sl 2 [[dI a0, dI b0], [dI a1, dI b1], [dI a2, dI b2], [dI a3, dI b3]].length fun i => [[dI a0, dI b0], [dI a1, dI b1], [dI a2, dI b2], [dI a3, dI b3]].getD i [])) (prs [(a0, b0), (a1, b1), (a2, b2), (a3, b3)]) := CEq.sl rfl (fun i hi => by
  rcases i with _ | i
  · rfl
  rcases i with _ | i
  · rfl
  rcases i with _ | i
  · rfl
  rcases i with _ | i
  · rfl
  exact absurd hi (by simp only [List.length_cons, List.length_nil]; omega))
theorem VEq.lp_4 {a0 b0 a1 b1 a2 b2 a3 b3 : Int} : VEq (.c (.d (.sl 2 [[dI a0, dI b0], [dI a1, dI b1], [dI a2, dI b2], [dI a3, dI b3]].length fun i => [[dI a0, dI b0], [dI a1, dI b1], [dI a2, dI b2], [dI a3, dI b3]].getD i []))) (.c (prs [(a0, b0), (a1, b1), (a2, b2), (a3, b3)])) := .c _ _ CEq.lp_4
theorem CEq.lt_1 {a0 b0 c0 : Int} : CEq (.d (.sl 3 [[dI a0, dI b0, dI c0]].length fun i => [[dI a0, dI b0, dI c0]].getD i [])) (trs [(a0, b0, c0)]) := CEq.sl rfl (fun i hi => by
  rcases i with _ | i
  · rfl
  exact absurd hi (by simp only [List.length_cons, List.length_nil]; omega))
theorem VEq.lt_1 {a0 b0 c0 : Int} : VEq (.c (.d (.sl 3 [[dI a0, dI b0, dI c0]].length fun i => [[dI a0, dI b0, dI c0]].getD i []))) (.c (trs [(a0, b0, c0)])) := .c _ _ CEq.lt_1
theorem CEq.lt_2 {a0 b0 c0 a1 b1 c1 : Int} : CEq (.d (.sl 3 [[dI a0, dI b0, dI c0], [dI a1, dI b1, dI c1]].length fun i => [[dI a0, dI b0, dI c0], [dI a1, dI b1, dI c1]].getD i [])) (trs [(a0, b0, c0), (a1, b1, c1)]) := CEq.sl rfl (fun i hi => by
  rcases i with _ | i
  · rfl
  rcases i with _ | i
  · rfl
  exact absurd hi (by simp only [List.length_cons, List.length_nil]; omega))
theorem VEq.lt_2 {a0 b0 c0 a1 b1 c1 : Int} : VEq (.c (.d (.sl 3 [[dI a0, dI b0, dI c0], [dI a1, dI b1, dI c1]].length fun i => [[dI a0, dI b0, dI c0], [dI a1, dI b1, dI c1]].getD i []))) (.c (trs [(a0, b0, c0), (a1, b1, c1)])) := .c _ _ CEq.lt_2
theorem CEq.lt_3 {a0 b0 c0 a1 b1 c1 a2 b2 c2 : Int} : CEq (.d (.sl 3 [[dI a0, dI b0, dI c0], [dI a1, dI b1, dI c1], [dI a2, dI b2, dI c2]].length fun i => [[dI a0, dI b0, dI c0], [dI a1, dI b1, dI c1], [dI a2, dI b2, dI c2]].getD i [])) (trs [(a0, b0, c0), (a1, b1, c1), (a2, b2, c2)]) := CEq.sl rfl (fun i hi => by
  rcases i with _ | i
  · rfl
  rcases i with _ | i
  · rfl
  rcases i with _ | i
  · rfl
  exact absurd hi (by simp only [List.length_cons, List.length_nil]; omega))
theorem VEq.lt_3 {a0 b0 c0 a1 b1 c1 a2 b2 c2 : Int} : VEq (.c (.d (.sl 3 [[dI a0, dI b0, dI c0], [dI a1, dI b1, dI c1], [dI a2, dI b2, dI c2]].length fun i => [[dI a0, dI b0, dI c0], [dI a1, dI b1, dI c1], [dI a2, dI b2, dI c2]].getD i []))) (.c (trs [(a0, b0, c0), (a1, b1, c1), (a2, b2, c2)])) := .c _ _ CEq.lt_3
section
variable {P : Program} {N base : Nat}
def keepK : List Nat → List (Nat × V) → (List (Nat × V) → Prop) → Prop
  | [], _, k => k []
  | t :: ts, env, k => frV (lk env t) fun v => keepK ts env fun e => k ((t, v) :: e)
def keepE (env : List (Nat × V)) : List Nat → List (Nat × V)
  | [] => []
  | t :: ts => (t, lk env t) :: keepE env ts
theorem keepK_eq : ∀ (ts : List Nat) (env : List (Nat × V)) (k : List (Nat × V) → Prop), keepK ts env k = k (keepE env ts)
  | [], env, k => rfl
  | t :: ts, env, k => by simp only [keepK, frV_eq, keepK_eq ts, keepE]
theorem lk_keepE {env : List (Nat × V)} {t : Nat} : ∀ (ts : List Nat), RI (lk env t) (lk (keepE env ts) t)
  | [] => fun _ _ _ _ => .unk _
  | x :: ts => by
    rw [keepE, lk_cons]
    split
    · rename_i h; subst h; exact RI.refl _
    · exact lk_keepE ts
theorem Mv.keep {env : List (Nat × V)} {σ : Store} {nx : Nat} (ts : List Nat) : Mv base ⟨env, σ, nx⟩ ⟨keepE env ts, σ, nx⟩ := Mv.env fun t => lk_keepE ts
theorem Sat.keep {x : LCode} {env : List (Nat × V)} {σ : Store} {nx : Nat} {Q : Exit → St → Prop} (ts : List Nat) (h : keepK ts env fun env' => SatL P N base x ⟨env', σ, nx⟩ Q) : SatL P N base x ⟨env, σ, nx⟩ Q := by
  rw [keepK_eq] at h
  exact ⟨Sat.from (Mv.keep ts) h.h⟩
theorem RetQ.of {nx : Nat} {rl : List RL} {vs vs0 : List V} {σ' : Store} {nx' : Nat} {e : Exit} {env : List (Nat × V)} {σ : Store} {nx1 : Nat} (he : e = .normal ∨ e = .ret) (hres : resAll env σ rl = some vs0) (hl : Nat.beq vs0.length vs.length = true) (h : Mv nx ⟨argEnv 0 vs0, σ, nx1⟩ ⟨argEnv 0 vs, σ', nx'⟩) : RetQ nx rl vs σ' nx' e ⟨env, σ, nx1⟩ :=
  ⟨he, vs0, hres, Nat.eq_of_beq_eq_true hl, h⟩
theorem Mv.plain {nx nx1 nx' : Nat} {env : List (Nat × V)} {σ : Store} {vs : List V} (hle : Nat.ble nx nx' = true) (h : envIs env (argEnv 0 vs)) : Mv nx ⟨env, σ, nx1⟩ ⟨argEnv 0 vs, [], nx'⟩ :=
  Mv.weaken (Wk.plain (Nat.le_of_ble_eq_true hle) h)
def putAt : List C → Nat → C → List C
  | [], _, _ => []
  | _ :: cs, 0, x => x :: cs
  | c :: cs, n + 1, x => c :: putAt cs n x
theorem putAt_get : ∀ (cs : List C) (n i : Nat) (x : C), (putAt cs n x)[i]? = if i = n ∧ n < cs.length then some x else cs[i]?
  | [], n, i, x => by simp [putAt]
  | c :: cs, 0, i, x => by cases i <;> simp [putAt]
  | c :: cs, n + 1, i, x => by cases i <;> simp [putAt, putAt_get cs n]
theorem putAt_length : ∀ (cs : List C) (n : Nat) (x : C), (putAt cs n x).length = cs.length
  | [], _, _ => rfl
  | _ :: _, 0, _ => rfl
  | _ :: cs, n + 1, x => by simp [putAt, putAt_length cs n x]
theorem OpsL.frz {ops : List LIns} {K : St → Prop} {env : List (Nat × V)} {σ : Store} {nx : Nat} (t id : Nat) {n : Nat} {e : TypeId} {s m : Nat} {f : Nat → List D} {fz : Bool} (h : lk env t = .c (.ms id n)) (hg : get σ id = some (.row e s m f fz)) (hn : n ≤ m)
    (k : frS (set σ id (.row e s m f true)) fun σ' => OpsL P N base ops ⟨(t, .c (.d (.sl s n f))) :: env, σ', nx⟩ K) : OpsL P N base ops ⟨env, σ, nx⟩ K := by
  rw [frS_eq] at k
  exact ⟨Ops.from (Mv.freeze t id h hg hn) k.h⟩
theorem MvQ.frz {Q : Exit → St → Prop} {x : Exit} {env : List (Nat × V)} {σ : Store} {nx : Nat} (t id : Nat) {n : Nat} {e : TypeId} {s m : Nat} {f : Nat → List D} {fz : Bool} (h : lk env t = .c (.ms id n)) (hg : get σ id = some (.row e s m f fz)) (hn : n ≤ m)
    (k : frS (set σ id (.row e s m f true)) fun σ' => MvQ base Q x ⟨(t, .c (.d (.sl s n f))) :: env, σ', nx⟩) : MvQ base Q x ⟨env, σ, nx⟩ := by
  rw [frS_eq] at k
  exact MvQ.from (Mv.freeze t id h hg hn) k
theorem Mv.nilB {env : List (Nat × V)} {σ : Store} {nx : Nat} (idb j : Nat) (e : TypeId) (s : Nat) (f : Nat → List D) {cs : List C} (hg : get σ idb = some (.box cs)) (hj : cs[j]? = some (.d (.v (.slice none 0 0)))) :
    Mv base ⟨env, σ, nx⟩ ⟨env, set ((nx, .row e s 0 f false) :: σ) idb (.box (putAt cs j (.ms nx 0))), nx + 1⟩ := fun N B0 Γ w a hc => by
  have hid := hc.free nx (Nat.le_refl _)
  obtain ⟨h1, h2⟩ := name_nil hc.ok hid hc.le e s f
  obtain ⟨b, hb, hok⟩ := hc.ok.ok idb _ hg
  have hne : idb ≠ nx := fun h => by subst h; rw [hid] at hb; cases hb
  have hg' : get ((nx, Ent.row e s 0 f false) :: σ) idb = some (.box cs) := by rw [get_cons_other hne]; exact hg
  have hb' : (Γ.upd nx 0 none).ρ idb = some b := by rw [upd_ρ hne]; exact hb
  have hle := CxLe.upd Γ 0 none hid
  obtain ⟨b2, hb2, hok2⟩ := h1.ok idb _ hg'
  rw [hb'] at hb2; cases hb2
  obtain ⟨hI, xs, t, hh, hl, hr⟩ := hok2
  have h3 := h1.modify (w' := w) (e' := .box (putAt cs j (.ms nx 0))) hg' hb' trivial (Nat.le_refl _) (fun _ _ _ => rfl) ⟨hI, xs, t, hh, by rw [hl, putAt_length], fun i c hc' => by
    rw [putAt_get] at hc'
    split at hc'
    · rename_i hi
      cases hc'
      obtain ⟨rfl, hi⟩ := hi
      obtain ⟨x, hx, hrx⟩ := hr i _ hj
      refine ⟨x, hx, 0, upd_ρ_same, .inl ⟨rfl, upd_κ_same, ?_⟩⟩
      generalize hd : D.v (.slice none 0 0) = d at hrx
      cases (show RepD _ w d x from hrx) <;> first | cases hd
      rfl
    · exact hr i c hc'⟩
  have hext : Ext base Γ w σ (Γ.upd nx 0 none) w (set ((nx, .row e s 0 f false) :: σ) idb (.box (putAt cs j (.ms nx 0)))) :=
    ⟨h2.os, h2.tape, h2.output, h2.size, h2.im, h2.new, h2.ρ, h2.κ, h2.keep, fun k hk => h2.live k (live_set hg' trivial hk)⟩
  refine ⟨_, ⟨hc.size, fun t' => (hc.env t').mono hle (fun _ _ => rfl), h3, fun id hid' => ?_, Nat.le_succ_of_le hc.le, ?_⟩, hext⟩
  · rw [upd_ρ (by have : nx + 1 ≤ id := hid'; omega)]; exact hc.free id (by have : nx + 1 ≤ id := hid'; show nx ≤ id; omega)
  · obtain ⟨Ds, d1, d2, d3⟩ := hc.dfs
    refine ⟨Ds, d1, d2, fun D hD => ?_⟩
    obtain ⟨d4, d5, d6, d7⟩ := d3 D hD
    refine ⟨d4, d5, fun hlv => ?_, d7⟩
    rcases hext.live D hlv with h3 | h3
    · exact d6 h3
    · have := (Array.getElem?_eq_some_iff.1 d7).1; omega
theorem Sat.nilB {x : LCode} {env : List (Nat × V)} {σ : Store} {nx : Nat} {Q : Exit → St → Prop} (idb j : Nat) (e : TypeId) (s : Nat) (f : Nat → List D) {cs : List C} (hg : get σ idb = some (.box cs)) (hj : cs[j]? = some (.d (.v (.slice none 0 0))))
    (h : frS (set ((nx, .row e s 0 f false) :: σ) idb (.box (putAt cs j (.ms nx 0)))) fun σ' => frNat (nx + 1) fun nx' => SatL P N base x ⟨env, σ', nx'⟩ Q) : SatL P N base x ⟨env, σ, nx⟩ Q := by
  rw [frS_eq, frNat_eq] at h
  exact ⟨Sat.from (Mv.nilB idb j e s f hg hj) h.h⟩
theorem Sat.nilS {x : LCode} {env : List (Nat × V)} {σ : Store} {nx : Nat} {Q : Exit → St → Prop} (t : Nat) (e : TypeId) (s : Nat) (f : Nat → List D) (h : lk env t = .c (.d (.v (.slice none 0 0))))
    (k : frNat (nx + 1) fun nx' => SatL P N base x ⟨(t, .c (.ms nx 0)) :: env, (nx, .row e s 0 f false) :: σ, nx'⟩ Q) : SatL P N base x ⟨env, σ, nx⟩ Q := by
  rw [frNat_eq] at k
  exact ⟨Sat.from (Mv.nilms t e s f h) k.h⟩
end
end Go.Pw
set_option linter.unusedVariables false
set_option linter.unusedSectionVars false
namespace Go.Pw
open Go Go.RowKit Go.ChangeShapes Go.WideShapes
inductive Sh
  | int (k : IntKind)
  | bool
  | str
  | sl (row : List Sh)
def shFields (cells : TypeId → Nat) (sh : TypeId → Option (List Sh)) : Nat → List Field → Option (List Sh)
  | _, [] => some []
  | o, f :: fs => if f.offset = o then (sh f.type).bind fun a => if a.length = cells f.type then (shFields cells sh (o + cells f.type) fs).map fun b => a ++ b else none else none
def shOf (P : Program) : Nat → TypeId → Option (List Sh)
  | 0, _ => none
  | m + 1, t => match P.underlying t with
    | some (.int k) => some [.int k]
    | some .bool => some [.bool]
    | some .string => some [.str]
    | some (.struct fs) => (shFields P.cellsOf (shOf P m) 0 fs.toList).bind fun l => if l.length = P.cellsOf t then some l else none
    | some (.array n e) => (shOf P m e).bind fun a => if a.length = P.cellsOf e ∧ n * P.cellsOf e = P.cellsOf t then some (List.replicate n a).flatten else none
    | some (.slice e) => (shOf P m e).bind fun a => if a.length = P.cellsOf e ∧ a.length ≠ 0 then some [.sl a] else none
    | _ => none
mutual
def OkD : Sh → D → Prop
  | .int k, d => ∃ n, d = .v (.int k n) ∧ k.has n = true
  | .bool, d => ∃ b, d = .v (.bool b)
  | .str, d => ∃ s : ByteArray, d = .v (.string s) ∧ s.size ≤ maxLen
  | .sl row, d => ∃ n f, d = .sl row.length n f ∧ n ≤ maxLen ∧ ∀ i, i < n → OkDs row (f i)
def OkDs : List Sh → List D → Prop
  | [], [] => True
  | s :: ss, d :: ds => OkD s d ∧ OkDs ss ds
  | _, _ => False
end
theorem OkDs.length : ∀ {ss : List Sh} {ds : List D}, OkDs ss ds → ds.length = ss.length
  | [], [], _ => rfl
  | s :: ss, d :: ds, h => by unfold OkDs at h; simp [OkDs.length h.2]
  | [], _ :: _, h => by unfold OkDs at h; exact h.elim
  | _ :: _, [], h => by unfold OkDs at h; exact h.elim
theorem OkDs.app : ∀ {ss tt : List Sh} {ds es : List D}, OkDs ss ds → OkDs tt es → OkDs (ss ++ tt) (ds ++ es)
  | [], _, [], _, _, h => h
  | s :: ss, tt, d :: ds, es, h, h' => by
    unfold OkDs at h
    show OkDs (s :: (ss ++ tt)) (d :: (ds ++ es))
    unfold OkDs
    exact ⟨h.1, OkDs.app h.2 h'⟩
  | [], _, _ :: _, _, h, _ => by unfold OkDs at h; exact h.elim
  | _ :: _, _, [], _, h, _ => by unfold OkDs at h; exact h.elim
def Reps (I : Nat → Prop) (w : World) (ds : List D) (cs : List Value) : Prop := cs.length = ds.length ∧ ∀ (i : Nat) d u, ds[i]? = some d → cs[i]? = some u → RepD I w d u
theorem Reps.nil {I : Nat → Prop} {w : World} : Reps I w [] [] := ⟨rfl, fun i d u h => by simp at h⟩
theorem Reps.one {I : Nat → Prop} {w : World} {d : D} {u : Value} (h : RepD I w d u) : Reps I w [d] [u] := ⟨rfl, fun i d' u' hd hu => by
  cases i with
  | zero => simp at hd hu; subst hd; subst hu; exact h
  | succ i => simp at hd⟩
theorem Reps.app {I : Nat → Prop} {w : World} {ds es : List D} {cs us : List Value} (h : Reps I w ds cs) (h' : Reps I w es us) : Reps I w (ds ++ es) (cs ++ us) := by
  refine ⟨by simp [h.1, h'.1], fun i d u hd hu => ?_⟩
  rcases Nat.lt_or_ge i ds.length with hi | hi
  · rw [List.getElem?_append_left hi] at hd
    rw [List.getElem?_append_left (by rw [h.1]; exact hi)] at hu
    exact h.2 i d u hd hu
  · rw [List.getElem?_append_right hi] at hd
    rw [List.getElem?_append_right (by rw [h.1]; exact hi), h.1] at hu
    exact h'.2 _ d u hd hu
section
variable {H : Type} {enc : TypeId × Value → H} {P : Program} {w : World} {base : Nat} {spare : Nat → Bool} {held : Bool}
theorem trod_array' {t e : TypeId} {n fuel : Nat} {cs : List Value} {x : DataW H × List MemPlace} (ht : P.underlying t = some (.array n e)) (h : DataW.trod enc P w base spare held fuel t cs = some x) :
    ∃ m, cs.length = P.cellsOf t ∧ ∀ i, i < n → ∃ y, DataW.trod enc P w base spare held m e ((cs.drop (i * P.cellsOf e)).take (P.cellsOf e)) = some y := by
  cases fuel with
  | zero => simp [DataW.trod] at h
  | succ m =>
    unfold DataW.trod at h
    rw [ht] at h
    simp only at h
    split at h
    · rename_i hl
      rw [Option.map_eq_some_iff] at h
      obtain ⟨xs, h1, _⟩ := h
      refine ⟨m, hl, fun i hi => ?_⟩
      have := mapM_some_get h1 i i (by simp [hi])
      have hlen := mapM_some_length h1
      rw [List.getElem?_eq_getElem (by rw [hlen]; simpa using hi)] at this
      exact ⟨_, this⟩
    · cases h
theorem trod_fields {m : Nat} (ih : ∀ (t : TypeId) (sh : List Sh) (fuel : Nat) (cs : List Value) (x : DataW H × List MemPlace), shOf P m t = some sh → DataW.trod enc P w base spare held fuel t cs = some x → ∃ ds, OkDs sh ds ∧ Reps (fun b => b < w.heap.size) w ds cs) {fuel : Nat} :
    ∀ (fs : List Field) (o : Nat) (sh : List Sh) (cs : List Value), shFields P.cellsOf (shOf P m) o fs = some sh → (∀ f ∈ fs, ∃ y, DataW.trod enc P w base spare held fuel f.type ((cs.drop f.offset).take (P.cellsOf f.type)) = some y) →
      o + sh.length = cs.length → ∃ ds, OkDs sh ds ∧ Reps (fun b => b < w.heap.size) w ds (cs.drop o)
  | [], o, sh, cs, h, _, hl => by
    simp only [shFields, Option.some.injEq] at h
    subst h
    refine ⟨[], by unfold OkDs; trivial, ?_⟩
    rw [List.drop_of_length_le (by simp at hl; omega)]
    exact Reps.nil
  | f :: fs, o, sh, cs, h, hf, hl => by
    simp only [shFields] at h
    split at h
    · rename_i ho
      rw [Option.bind_eq_some_iff] at h
      obtain ⟨a, ha, h⟩ := h
      split at h
      · rename_i hal
        rw [Option.map_eq_some_iff] at h
        obtain ⟨b, hb, rfl⟩ := h
        obtain ⟨y, hy⟩ := hf f (by simp)
        rw [ho] at hy
        obtain ⟨ds, h1, h2⟩ := ih f.type a fuel _ y ha hy
        rw [List.length_append] at hl
        obtain ⟨es, h3, h4⟩ := trod_fields ih fs (o + P.cellsOf f.type) b cs hb (fun g hg => hf g (by simp [hg])) (by omega)
        refine ⟨ds ++ es, h1.app h3, ?_⟩
        have := h2.app h4
        rwa [← List.drop_drop, List.take_append_drop] at this
      · cases h
    · cases h
theorem reps_array {I : Nat → Prop} {c : Nat} {sh : List Sh} : ∀ (n : Nat) (cs : List Value), cs.length = n * c → (∀ i, i < n → ∃ ds, OkDs sh ds ∧ Reps I w ds ((cs.drop (i * c)).take c)) → ∃ ds, OkDs (List.replicate n sh).flatten ds ∧ Reps I w ds cs
  | 0, cs, hl, _ => by
    have : cs = [] := List.length_eq_zero_iff.1 (by simpa using hl)
    subst this
    exact ⟨[], by simp only [List.replicate, List.flatten]; unfold OkDs; trivial, Reps.nil⟩
  | n + 1, cs, hl, h => by
    obtain ⟨ds, h1, h2⟩ := h 0 (Nat.succ_pos _)
    obtain ⟨es, h3, h4⟩ := reps_array (c := c) (sh := sh) n (cs.drop c) (by rw [List.length_drop, hl, Nat.succ_mul]; omega) (fun i hi => by
      obtain ⟨es, h3, h4⟩ := h (i + 1) (by omega)
      refine ⟨es, h3, ?_⟩
      rwa [List.drop_drop, show c + i * c = (i + 1) * c by rw [Nat.succ_mul]; omega])
    refine ⟨ds ++ es, ?_, ?_⟩
    · rw [List.replicate_succ, List.flatten_cons]; exact h1.app h3
    · simp only [Nat.zero_mul, List.drop_zero] at h2
      have := h2.app h4
      rwa [List.take_append_drop] at this
theorem has_of_wf {k : IntKind} {n : Int} (h : (Lit.int k n).wf = true) : k.has n = true := by
  simpa [Lit.wf, IntKind.has] using h
theorem trod_reps : ∀ (m : Nat) (t : TypeId) (sh : List Sh) (fuel : Nat) (cs : List Value) (x : DataW H × List MemPlace), shOf P m t = some sh → DataW.trod enc P w base spare held fuel t cs = some x →
    ∃ ds, OkDs sh ds ∧ Reps (fun b => b < w.heap.size) w ds cs := by
  intro m
  induction m with
  | zero => intro t sh fuel cs x h; simp [shOf] at h
  | succ m ih =>
    intro t sh fuel cs x h hx
    unfold shOf at h
    split at h
    · rename_i k hu
      cases h
      obtain ⟨n, rfl, _, hw⟩ := DataW.trod_int hu hx
      exact ⟨[.v (.int k n)], by unfold OkDs; exact ⟨by unfold OkD; exact ⟨n, rfl, has_of_wf hw⟩, by unfold OkDs; trivial⟩, Reps.one (.v _ rfl)⟩
    · rename_i hu
      cases h
      obtain ⟨b, rfl, _⟩ := DataW.trod_bool hu hx
      exact ⟨[.v (.bool b)], by unfold OkDs; exact ⟨by unfold OkD; exact ⟨b, rfl⟩, by unfold OkDs; trivial⟩, Reps.one (.v _ rfl)⟩
    · rename_i hu
      cases h
      obtain ⟨s, rfl, _, hs⟩ := DataW.trod_string hu hx
      exact ⟨[.v (.string s)], by unfold OkDs; exact ⟨by unfold OkD; exact ⟨s, rfl, hs⟩, by unfold OkDs; trivial⟩, Reps.one (.v _ rfl)⟩
    · rename_i fs hu
      rw [Option.bind_eq_some_iff] at h
      obtain ⟨l, hl, h⟩ := h
      split at h
      · rename_i hc
        cases h
        obtain ⟨xs, n, rfl, _, hlen, hxl, hfs⟩ := DataW.trod_struct hu hx
        obtain ⟨ds, h1, h2⟩ := trod_fields (fuel := n) ih fs.toList 0 sh cs hl (fun f hf => by
          obtain ⟨i, hi, rfl⟩ := List.getElem_of_mem hf
          have h3 := hfs i fs.toList[i] (by simp)
          rw [List.getElem?_eq_getElem (by rw [hxl]; simpa using hi)] at h3
          exact ⟨_, h3⟩) (by omega)
        exact ⟨ds, h1, by simpa using h2⟩
      · cases h
    · rename_i n e hu
      rw [Option.bind_eq_some_iff] at h
      obtain ⟨a, ha, h⟩ := h
      split at h
      · rename_i hc
        cases h
        obtain ⟨m', hlen, hy⟩ := trod_array' hu hx
        exact reps_array n cs (by rw [hlen, hc.2]) (fun i hi => by
          obtain ⟨y, hy⟩ := hy i hi
          exact ih e a m' _ y ha hy)
      · cases h
    · rename_i e hu
      rw [Option.bind_eq_some_iff] at h
      obtain ⟨a, ha, h⟩ := h
      split at h
      · rename_i hca
        obtain ⟨hc, hca⟩ := hca
        cases h
        rcases Deep.open_slice hu hx with ⟨rfl, _⟩ | ⟨ad, len, cap, mm, n, D0, Pl, rfl, _, hlc, hcm, hmm, _, hel⟩
        · exact ⟨[.sl a.length 0 fun _ => []], by unfold OkDs; exact ⟨by unfold OkD; exact ⟨0, _, rfl, Nat.zero_le _, fun i hi => absurd hi (Nat.not_lt_zero _)⟩, by unfold OkDs; trivial⟩, Reps.one (.slE _ _ _ _)⟩
        · have hle : len ≤ mm := by rw [hmm]; split <;> omega
          have hall : ∀ i, i < len → ∃ p : List D × List Value, OkDs a p.1 ∧ Reps (fun b => b < w.heap.size) w p.1 p.2 ∧ w.cells? base (ad.add (i * P.cellsOf e)) (P.cellsOf e) = some p.2 := fun i hi => by
            obtain ⟨cs', h1, h2⟩ := hel i (by omega)
            obtain ⟨ds, h3, h4⟩ := ih e a n cs' _ ha h2
            exact ⟨(ds, cs'), h3, h4, h1⟩
          obtain ⟨f, hf⟩ := Deep.choose_lt hall
          refine ⟨[.sl a.length len fun i => (f i).1], by unfold OkDs; exact ⟨by unfold OkD; exact ⟨len, _, rfl, by omega, fun i hi => (hf i hi).1⟩, by unfold OkDs; trivial⟩, Reps.one ?_⟩
          by_cases h0 : len = 0
          · subst h0; exact .slE _ _ _ _
          refine .sl _ _ _ _ _ (fun i j => ((f i).2[j]?).getD (.bool false)) hlc ?_ (fun i hi => (hf i hi).1.length) (fun i j d hi hd => ?_) (fun i j d hi hd => ?_)
          · obtain ⟨_, h2, h3⟩ := hf 0 (by omega)
            have := World.cells?_block h3 (by omega)
            unfold Addr.add at this
            simpa using this
          · obtain ⟨h1, h2, h3⟩ := hf i hi
            obtain ⟨_, h4, h5⟩ := World.cells?_some h3
            have hj : j < (f i).1.length := (List.getElem?_eq_some_iff.1 hd).1
            rw [h2.1.symm, h4] at hj
            have h6 := h5 j hj
            rw [List.getElem?_eq_getElem (by omega)] at h6
            rw [Deep.add_add] at h6
            rw [hc, h6, List.getElem?_eq_getElem (by omega)]
            rfl
          · obtain ⟨h1, h2, h3⟩ := hf i hi
            have hj : j < (f i).1.length := (List.getElem?_eq_some_iff.1 hd).1
            rw [← h2.1] at hj
            rw [List.getElem?_eq_getElem hj]
            exact h2.2 j d _ hd (List.getElem?_eq_getElem hj)
      · cases h
    · cases h
def shAll (P : Program) : List TypeId → Option (List (Bool × List Sh))
  | [] => some []
  | t :: ts => (shOf P 20 t).bind fun s => if P.readableRec t = true ∧ t < P.types.size then (shAll P ts).map fun r => ((match P.underlying t with | some (.struct _) | some (.array _ _) => true | _ => false), s) :: r else none
def ArgOk : List (Bool × List Sh) → List V → Prop
  | [], [] => True
  | (b, sh) :: r, v :: vs => (∃ ds, OkDs sh ds ∧ (b = true ∧ v = .agg (ds.map .d) ∨ b = false ∧ ∃ d, ds = [d] ∧ v = .c (.d d))) ∧ ArgOk r vs
  | _, _ => False
theorem okWide_agg {t : TypeId} {v : Value} (h : Value.okWide P w .any base t v) (hb : (match P.underlying t with | some (.struct _) | some (.array _ _) => true | _ => false) = true) : ∃ cs, v = .agg cs := by
  unfold Value.okWide at h
  split at hb
  · rename_i fs hu; rw [hu] at h; exact ⟨_, h.choose_spec.1⟩
  · rename_i n e hu; rw [hu] at h; exact ⟨_, h.choose_spec.1⟩
  · cases hb
theorem below_all (hl : laidOutB P = true) {W W' : World} (hb : Below W.heap.size W W') : ∀ {ts : List TypeId} {vs : List Value} {ds : List (DataW H)} {p : List MemPlace} {shs : List (Bool × List Sh)}, shAll P ts = some shs →
    DataW.TrodAll enc P W 0 (fun _ => true) true ts vs ds p → DataW.TrodAll enc P W' 0 (fun b => decide (b < W.heap.size)) true ts vs ds p
  | [], _, _, _, _, _, h => by
    obtain ⟨rfl, rfl, rfl⟩ := trodAll_nil h
    exact trodAll_mk0
  | t :: ts, _, _, _, _, hs, h => by
    have hlt := h.lt
    obtain ⟨v, vs1, d, ds1, a, b, rfl, rfl, rfl, h1, h2⟩ := trodAll_cons h
    simp only [shAll, Option.bind_eq_some_iff] at hs
    obtain ⟨s, _, hs⟩ := hs
    split at hs
    · rename_i hr
      rw [Option.map_eq_some_iff] at hs
      obtain ⟨r, hr', _⟩ := hs
      exact ⟨a, b, Below.trod hl hr.1 hr.2 h1 hb (fun x hx => hlt x (by simp [hx])), below_all hl hb hr' h2, rfl⟩
    · cases hs
theorem args_rep {Γ : Cx} (hΓ : Γ.I = fun b => b < w.heap.size) : ∀ {ts : List TypeId} {vs : List Value} {ds : List (DataW H)} {p : List MemPlace} {shs : List (Bool × List Sh)}, shAll P ts = some shs →
    DataW.TrodAll enc P w 0 (fun _ => true) true ts vs ds p → (∀ (j : Nat) t v, ts[j]? = some t → vs[j]? = some v → Value.okWide P w .any base t v) →
    ∃ args : List V, ArgOk shs args ∧ vs.length = args.length ∧ ∀ (i : Nat) v u, args[i]? = some v → vs[i]? = some u → RepV Γ w v u
  | [], _, _, _, _, hs, h, _ => by
    obtain ⟨rfl, rfl, rfl⟩ := trodAll_nil h
    simp only [shAll, Option.some.injEq] at hs
    subst hs
    exact ⟨[], trivial, rfl, fun i v u h => by simp at h⟩
  | t :: ts, _, _, _, _, hs, h, hv => by
    obtain ⟨v, vs1, d, ds1, a, b, rfl, rfl, rfl, h1, h2⟩ := trodAll_cons h
    simp only [shAll, Option.bind_eq_some_iff] at hs
    obtain ⟨s, hs1, hs⟩ := hs
    split at hs
    · rename_i hr
      rw [Option.map_eq_some_iff] at hs
      obtain ⟨r, hr', rfl⟩ := hs
      obtain ⟨args, q1, q2, q3⟩ := args_rep hΓ hr' h2 (fun j t' v' hj hj' => hv (j + 1) t' v' (by simpa using hj) (by simpa using hj'))
      obtain ⟨fuel, hx⟩ := h1
      obtain ⟨es, e1, e2⟩ := trod_reps 20 t s fuel _ _ hs1 hx
      have hok := hv 0 t v rfl rfl
      have hcons : ∀ x : V, RepV Γ w x v → ∀ (i : Nat) (y : V) (u : Value), (x :: args)[i]? = some y → (v :: vs1)[i]? = some u → RepV Γ w y u := fun x hx i y u hy hu => by
        cases i with
        | zero => simp at hy hu; subst hy; subst hu; exact hx
        | succ i => exact q3 i y u (by simpa using hy) (by simpa using hu)
      cases hb : (match P.underlying t with | some (.struct _) | some (.array _ _) => true | _ => false) with
      | true =>
        obtain ⟨cs, rfl⟩ := okWide_agg hok hb
        refine ⟨.agg (es.map .d) :: args, ⟨⟨es, e1, .inl ⟨rfl, rfl⟩⟩, q1⟩, by simp [q2], hcons _ ?_⟩
        have e3 : cs.toList.length = es.length := e2.1
        refine .agg _ _ (by simpa using e3) (fun i c u hc hu => ?_)
        simp only [List.getElem?_map, Option.map_eq_some_iff] at hc
        obtain ⟨dd, hd, rfl⟩ := hc
        show RepD Γ.I w dd u
        rw [hΓ]
        exact e2.2 i dd u hd (by show cs.toList[i]? = some u; simpa using hu)
      | false =>
        have hone : v.cells.toList = [v] ∨ ∃ cs, v = .agg cs := by
          cases v <;> first | exact .inl rfl | exact .inr ⟨_, rfl⟩
        have hcell : Cell.okWide P w .any base t v := by
          unfold Value.okWide at hok
          split at hok
          · rename_i hu; rw [hu] at hb; cases hb
          · rename_i hu; rw [hu] at hb; cases hb
          · exact hok
        have hsl : s.length = 1 := by
          unfold shOf at hs1
          split at hs1
          · cases hs1; rfl
          · cases hs1; rfl
          · cases hs1; rfl
          · rename_i hu; rw [hu] at hb; cases hb
          · rename_i hu; rw [hu] at hb; cases hb
          · rw [Option.bind_eq_some_iff] at hs1
            obtain ⟨a, _, hs1⟩ := hs1
            split at hs1
            · cases hs1; rfl
            · cases hs1
          · cases hs1
        obtain ⟨dd, rfl⟩ : ∃ dd, es = [dd] := by
          have := e1.length
          rw [hsl] at this
          exact List.length_eq_one_iff.1 this
        refine ⟨.c (.d dd) :: args, ⟨⟨[dd], e1, .inr ⟨rfl, dd, rfl, rfl⟩⟩, q1⟩, by simp [q2], hcons _ ?_⟩
        have hvc : v.cells.toList = [v] := by
          rcases hone with h | ⟨cs, rfl⟩
          · exact h
          · exfalso
            unfold shOf at hs1
            split at hs1 <;> rename_i hu <;> first | (simp [Cell.okWide, Cell.ok, hu] at hcell; done) | (rw [hu] at hb; cases hb) | cases hs1
        refine .c _ _ ?_
        show RepD Γ.I w dd v
        rw [hΓ]
        exact e2.2 0 dd v rfl (by rw [hvc]; rfl)
    · cases hs
theorem storeOk_nil {Γ : Cx} (h : ∀ k, Γ.I k → k < w.heap.size) (hl : LayOk Γ.I w) : StoreOk Γ w [] :=
  ⟨h, fun id e hg => by simp [get] at hg, fun i j k hi => by
    rcases hi with ⟨_, h⟩ | ⟨_, _, _, _, h, _⟩ | ⟨_, _, _, _, h⟩ | ⟨_, _, h⟩ <;> simp [get] at h, hl⟩
theorem not_live_nil {Γ : Cx} {k : Nat} : ¬ Live Γ [] k := fun ⟨_, hi, _⟩ => by
  rcases hi with ⟨_, h⟩ | ⟨_, _, _, _, h, _⟩ | ⟨_, _, _, _, h⟩ | ⟨_, _, h⟩ <;> simp [get] at h
theorem law_calls {f : FuncId} {F : Func} {s : ChangeSpec} {shs : List (Bool × List Sh)} {tb : TypeId} (hl : laidOutB P = true) (hs : shAll P F.params.toList = some shs) (hv : s.vars = []) (hfn : ∀ ds : List (DataW H), ds.length = F.params.size → s.fn H ds = { results := [.lit (.bool true)], args := ds })
    (hr : F.resultTypes = #[tb]) (htb : P.underlying tb = some .bool) (hp : ∀ args, ArgOk shs args → PFD P f args (vbl true)) (W : World) (base : Nat) (args : Array Value) (ds gs : List (DataW H)) (before : List MemPlace)
    (hlw : LaidW W) (hval : ∀ (j : Nat) t v, F.params[j]? = some t → args[j]? = some v → Value.okWide P W .any base t v) (hW : DataW.Whole enc P F.params.toList s.vars false W args.toList ds gs before) :
    Calls P f args W fun e W' => ∃ v, e = .returned v ∧ s.post enc P F false true false false W args v W' := by
  have hW' := hW
  obtain ⟨p, q, hA, hV, rfl, hfz, hnd⟩ := hW
  rw [hv] at hV
  obtain ⟨rfl, rfl⟩ := trodVars_none hV
  let Γ : Cx := ⟨fun b => b < W.heap.size, fun _ => none, fun _ => none⟩
  obtain ⟨avs, h1, h2, h3⟩ := args_rep (Γ := Γ) rfl hs hA (fun j t v hj hj' => hval j t v (by simpa using hj) (by simpa using hj'))
  refine ((hp avs h1).h.2.2 Γ W args (storeOk_nil (fun k hk => hk) ⟨W, hlw, fun k hk => ⟨hk, rfl⟩⟩) (fun _ _ _ => rfl) ⟨by simpa using h2, fun i v u hv hu => h3 i v u hv (by simpa using hu)⟩).mono fun e W' hq => ?_
  obtain ⟨u, Γ', rfl, hu, _, _, _, hE⟩ := hq
  have hu : u = .bool true := by
    cases hu with
    | c _ _ h => cases (show RepD Γ'.I W' (.v (.bool true)) u from h); rfl
  subst hu
  have hb : Below W.heap.size W W' := ⟨hE.os, hE.tape, hE.output, hE.size, fun k hk => hE.keep k hk not_live_nil⟩
  have hlen : ds.length = F.params.size := by
    have : ∀ {ts : List TypeId} {vs : List Value} {ds : List (DataW H)} {p : List MemPlace}, DataW.TrodAll enc P W 0 (fun _ => true) true ts vs ds p → ds.length = ts.length := by
      intro ts
      induction ts with
      | nil => intro vs ds p h; obtain ⟨rfl, rfl, rfl⟩ := trodAll_nil h; rfl
      | cons t ts ih =>
        intro vs ds p h
        obtain ⟨v, vs1, d, ds1, a, b, rfl, rfl, rfl, h1, h2⟩ := trodAll_cons h
        simp [ih h2]
    simpa using this hA
  refine ⟨_, rfl, ds, [], p ++ [], [], p, [], hW', ?_, ?_, ?_, World.keptBut_mono (fun x hx => ⟨hx, .inr (.inl (by simpa using hx))⟩) (hb.frame _), fun h => by cases h⟩
  · rw [List.append_nil, hfn ds hlen, hr]
    exact trodAll_mk1 (shut_bool htb true)
  · rw [List.append_nil, hfn ds hlen]
    exact below_all hl hb hs hA
  · rw [List.append_nil, hfn ds hlen, hv]
    exact rfl
end
end Go.Pw
set_option linter.unusedVariables false
namespace Go.Pw
open Go Go.RowKit
theorem PFD.ri {P : Program} {f : FuncId} {args args' : List V} {v : V} (h : PFD P f args' v) (hr : RIs args args') : PFD P f args v :=
  ⟨h.h.1, h.h.2.1, fun Γ w us h1 h2 h3 => h.h.2.2 Γ w us h1 h2 (hr.rep h3)⟩
theorem okDs_cons {s : Sh} {ss : List Sh} {ds : List D} (h : OkDs (s :: ss) ds) : ∃ d es, ds = d :: es ∧ OkD s d ∧ OkDs ss es := by
  cases ds with
  | nil => unfold OkDs at h; exact h.elim
  | cons d es => unfold OkDs at h; exact ⟨d, es, rfl, h.1, h.2⟩
theorem okDs_nil {ds : List D} (h : OkDs [] ds) : ds = [] := by
  cases ds with
  | nil => rfl
  | cons d es => unfold OkDs at h; exact h.elim
theorem okD_int {k : IntKind} {d : D} (h : OkD (.int k) d) : ∃ n, d = .v (.int k n) ∧ k.has n = true := by unfold OkD at h; exact h
theorem okD_str {d : D} (h : OkD .str d) : ∃ s : ByteArray, d = .v (.string s) ∧ s.size ≤ maxLen := by unfold OkD at h; exact h
theorem okD_sl {row : List Sh} {d : D} (h : OkD (.sl row) d) : ∃ n f, d = .sl row.length n f ∧ n ≤ maxLen ∧ ∀ i, i < n → OkDs row (f i) := by unfold OkD at h; exact h
abbrev i64 (n : Int) : Prop := IntKind.i64.has n = true
theorem row1 {ds : List D} (h : OkDs [.int .i64] ds) : ∃ a : Int, ds = r1 a ∧ i64 a := by
  obtain ⟨d, es, rfl, h1, h2⟩ := okDs_cons h
  obtain ⟨n, rfl, hn⟩ := okD_int h1
  rw [okDs_nil h2]
  exact ⟨n, rfl, hn⟩
abbrev Arg (b : Bool) (sh : List Sh) (v : V) : Prop := ∃ ds, OkDs sh ds ∧ (b = true ∧ v = .agg (ds.map .d) ∨ b = false ∧ ∃ d, ds = [d] ∧ v = .c (.d d))
theorem arg_c {s : Sh} {v : V} (h : Arg false [s] v) : ∃ d, v = .c (.d d) ∧ OkD s d := by
  obtain ⟨ds, h1, ⟨h2, _⟩ | ⟨_, d, rfl, rfl⟩⟩ := h
  · cases h2
  · obtain ⟨d', es, h3, h4, h5⟩ := okDs_cons h1
    cases h3
    exact ⟨d, rfl, h4⟩
theorem arg_agg {sh : List Sh} {v : V} (h : Arg true sh v) : ∃ ds, v = .agg (ds.map .d) ∧ OkDs sh ds := by
  obtain ⟨ds, h1, ⟨_, rfl⟩ | ⟨h2, _⟩⟩ := h
  · exact ⟨ds, rfl, h1⟩
  · cases h2
end Go.Pw
namespace Go.Pw
theorem Fork.yes {b : Bool} {p q : Prop} (hb : b = true) (hp : p) : Fork b p q := ⟨fun _ => hp, fun h => absurd (hb.symm.trans h) (by decide)⟩
theorem Fork.no {b : Bool} {p q : Prop} (hb : b = false) (hq : q) : Fork b p q := ⟨fun h => absurd (hb.symm.trans h) (by decide), fun _ => hq⟩
theorem nd_t {x : Prop} [Decidable x] (h : ¬ x) : (!decide x) = true := by rw [decide_eq_false h]; rfl
theorem nd_f {x : Prop} [Decidable x] (h : x) : (!decide x) = false := by rw [decide_eq_true h]; rfl
end Go.Pw
set_option linter.unusedVariables false
namespace Go.Pw
open Go Go.RowKit
theorem ob {p : Prop} (h : p := by first | trivial | omega | ((try simp only [R64, E53, true_and, and_true, Int.toNat_natCast, List.length_cons, List.length_nil]); omega)) : p := h
theorem tt1 {b : Bool} (h : b = true := by first | exact rfl | (refine decide_eq_true ?_; omega) | (refine nd_t ?_; omega) | (simp only [decide_true, Bool.and_self, Bool.not_false] <;> fail)) : b = true := h
theorem ff1 {b : Bool} (h : b = false := by first | exact rfl | (refine decide_eq_false ?_; omega) | (refine nd_f ?_; omega) | (simp only [decide_true, Bool.and_self, Bool.not_true] <;> fail)) : b = false := h
theorem Owe.o {p q : Prop} (r : q) (l : p := by exact ob) : Owe p q := ⟨l, r⟩
theorem Owe.same {p q : Prop} (h : Owe p q) : Owe p q := h
theorem fkD {x p q : Prop} [h : Decidable x] (h1 : x → p) (h2 : ¬ x → q) : Fork (decide x) p q := Fork.dec h1 h2
theorem fkN {x p q : Prop} [h : Decidable x] (h1 : ¬ x → p) (h2 : x → q) : Fork (!decide x) p q := Fork.ndec h1 h2
theorem fkM {b : Bool} {p q : Prop} (h1 : b = true → p) (h2 : b = false → q) : Fork b p q := ⟨h1, h2⟩
theorem fkY {b : Bool} {p q : Prop} (hp : p) (hb : b = true := by exact tt1) : Fork b p q := Fork.yes hb hp
theorem fkF {b : Bool} {p q : Prop} (hq : q) (hb : b = false := by exact ff1) : Fork b p q := Fork.no hb hq
inductive QI where
  | v (x y : V)
  | c (x y : C)
  | e (x y : Ent)
  | vs (xs ys : List V)
  | cs (xs ys : List C)
  | en (env e0 : List (Nat × V))
  | eq (π : Nat → Nat) (env e0 : List (Nat × V))
  | st (π : Nat → Nat) (σ σ0 : Store)
def cloCB : C → Bool
  | .d _ | .tru | .fls | .rp _ | .z | .fn _ [] | .fl _ | .cx _ _ | .cl _ _ _ | .fnR _ _ | .fnB _ _ => true
  | _ => false
def cloCsB : List C → Bool
  | [] => true
  | c :: cs => cloCB c && cloCsB cs
def cloB : V → Bool
  | .c x => cloCB x
  | .agg cs => cloCsB cs
  | .unk => true
  | .tup _ => false
theorem cloCB_ok {c : C} (h : cloCB c = true) : cloC c := by
  unfold cloCB at h
  split at h <;> first | trivial | rfl | cases h
theorem cloCsB_ok : ∀ {cs : List C}, cloCsB cs = true → cloCs cs
  | [], _ => trivial
  | c :: cs, h => by
    simp only [cloCsB, Bool.and_eq_true] at h
    exact ⟨cloCB_ok h.1, cloCsB_ok h.2⟩
theorem cloB_ok {v : V} (h : cloB v = true) : clo v := by
  cases v with
  | c x => exact cloCB_ok h
  | agg cs => exact cloCsB_ok h
  | unk => trivial
  | tup => cases h
def QI.so : QI → Prop
  | .v x y => VEq x y
  | .c x y => CEq x y
  | .e x y => EEq x y
  | .vs xs ys => VEqs xs ys
  | .cs xs ys => CEqs xs ys
  | .en env e0 => envIs env e0
  | .eq π env e0 => envEq π env e0
  | .st π σ σ0 => stoEq π σ σ0
inductive QQ : QI → Prop
  | vsn : QQ (.vs [] [])
  | vsc {x y : V} {xs ys : List V} (h : QI.so (.v x y)) (t : QI.so (.vs xs ys)) : QQ (.vs (x :: xs) (y :: ys))
  | csn : QQ (.cs [] [])
  | csc {x y : C} {xs ys : List C} (h : QI.so (.c x y)) (t : QI.so (.cs xs ys)) : QQ (.cs (x :: xs) (y :: ys))
  | enn {env : List (Nat × V)} : QQ (.en env [])
  | enc {env e0 : List (Nat × V)} {t : Nat} {v : V} (h : QI.so (.v (lk env t) v)) (c : cloB v = true) (r : QI.so (.en env e0)) : QQ (.en env ((t, v) :: e0))
  | eqn {π : Nat → Nat} {env : List (Nat × V)} : QQ (.eq π env [])
  | eqc {π : Nat → Nat} {env e0 : List (Nat × V)} {t : Nat} {v : V} (h : QI.so (.v (lk env t) (rnV π v))) (r : QI.so (.eq π env e0)) : QQ (.eq π env ((t, v) :: e0))
  | stn {π : Nat → Nat} {σ : Store} : QQ (.st π σ [])
  | stc {π : Nat → Nat} {σ σ0 : Store} {id : Nat} {x y : Ent} (g : get σ (π id) = some y) (h : QI.so (.e y (rnE π x))) (r : QI.so (.st π σ σ0)) : QQ (.st π σ ((id, x) :: σ0))
  | vr (x : V) : QQ (.v x x)
  | er (x : Ent) : QQ (.e x x)
  | cr (x : C) : QQ (.c x x)
  | tru {b : Bool} (h : b = true) : QQ (.v (.c .tru) (vbl b))
  | fls {b : Bool} (h : b = false) : QQ (.v (.c .fls) (vbl b))
  | bool {a b : Bool} (h : a = b) : QQ (.v (vbl a) (vbl b))
  | int {k : IntKind} {a b : Int} (h : a = b) : QQ (.v (vi k a) (vi k b))
  | nil {s : Nat} {g : Nat → List D} : QQ (.v (.c (.d (.v (.slice none 0 0)))) (.c (.d (.sl s 0 g))))
  | z {s : Nat} {g : Nat → List D} : QQ (.v (.c .z) (.c (.d (.sl s 0 g))))
  | li1 {a0 : Int} : QQ (.v (.c (.d (.sl 1 [[dI a0]].length fun i => [[dI a0]].getD i []))) (.c (ints [a0])))
  | li2 {a0 a1 : Int} : QQ (.v (.c (.d (.sl 1 [[dI a0], [dI a1]].length fun i => [[dI a0], [dI a1]].getD i []))) (.c (ints [a0, a1])))
  | li3 {a0 a1 a2 : Int} : QQ (.v (.c (.d (.sl 1 [[dI a0], [dI a1], [dI a2]].length fun i => [[dI a0], [dI a1], [dI a2]].getD i []))) (.c (ints [a0, a1, a2])))
  | li4 {a0 a1 a2 a3 : Int} : QQ (.v (.c (.d (.sl 1 [[dI a0], [dI a1], [dI a2], [dI a3]].length fun i => [[dI a0], [dI a1], [dI a2], [dI a3]].getD i []))) (.c (ints [a0, a1, a2, a3])))
  | lp1 {a0 b0 : Int} : QQ (.v (.c (.d (.sl 2 [[dI a0, dI b0]].length fun i => [[dI a0, dI b0]].getD i []))) (.c (prs [(a0, b0)])))
  | lp2 {a0 b0 a1 b1 : Int} : QQ (.v (.c (.d (.sl 2 [[dI a0, dI b0], [dI a1, dI b1]].length fun i => [[dI a0, dI b0], [dI a1, dI b1]].getD i []))) (.c (prs [(a0, b0), (a1, b1)])))
  | lp3 {a0 b0 a1 b1 a2 b2 : Int} : QQ (.v (.c (.d (.sl 2 [[dI a0, dI b0], [dI a1, dI b1], [dI a2, dI b2]].length fun i => [[dI a0, dI b0], [dI a1, dI b1], [dI a2, dI b2]].getD i []))) (.c (prs [(a0, b0), (a1, b1), (a2, b2)])))
  | lp4 {a0 b0 a1 b1 a2 b2 a3 b3 : Int} : QQ (.v (.c (.d (.sl 2 [[dI a0, dI b0], [dI a1, dI b1], [dI a2, dI b2], [dI a3, dI b3]].length fun i => [[dI a0, dI b0], [dI a1, dI b1], [dI a2, dI b2], [dI a3, dI b3]].getD i []))) (.c (prs [(a0, b0), (a1, b1), (a2, b2), (a3, b3)])))
  | lt1 {a0 b0 c0 : Int} : QQ (.v (.c (.d (.sl 3 [[dI a0, dI b0, dI c0]].length fun i => [[dI a0, dI b0, dI c0]].getD i []))) (.c (trs [(a0, b0, c0)])))
  | lt2 {a0 b0 c0 a1 b1 c1 : Int} : QQ (.v (.c (.d (.sl 3 [[dI a0, dI b0, dI c0], [dI a1, dI b1, dI c1]].length fun i => [[dI a0, dI b0, dI c0], [dI a1, dI b1, dI c1]].getD i []))) (.c (trs [(a0, b0, c0), (a1, b1, c1)])))
  | lt3 {a0 b0 c0 a1 b1 c1 a2 b2 c2 : Int} : QQ (.v (.c (.d (.sl 3 [[dI a0, dI b0, dI c0], [dI a1, dI b1, dI c1], [dI a2, dI b2, dI c2]].length fun i => [[dI a0, dI b0, dI c0], [dI a1, dI b1, dI c1], [dI a2, dI b2, dI c2]].getD i []))) (.c (trs [(a0, b0, c0), (a1, b1, c1), (a2, b2, c2)])))
  | ms {id n m : Nat} (h : n = m) : QQ (.v (.c (.ms id n)) (.c (.ms id m)))
  | sll {α : Type} {s : Nat} {row : α → List D} {d : α} {l m : List α} (h : l = m) : QQ (.v (.c (slv s row d l)) (.c (slv s row d m)))
  | aggs {xs ys : List C} (h : QI.so (.cs xs ys)) : QQ (.v (.agg xs) (.agg ys))
  | boxs {xs ys : List C} (h : QI.so (.cs xs ys)) : QQ (.e (.box xs) (.box ys))
  | app1 {e : TypeId} {l l' : List Int} {a : Int} (hl : l' = l ++ [a]) : QQ (.e (.row e 1 (l.length + 1) (fun i => if i < l.length then r1 (l.getD i 0) else ([[dI a]].getD (i - l.length) [])) false) (rowv e 1 r1 0 l'))
  | app2 {e : TypeId} {l l' : List (Int × Int)} {a b : Int} (hl : l' = l ++ [(a, b)]) : QQ (.e (.row e 2 (l.length + 1) (fun i => if i < l.length then r2 (l.getD i (0, 0)) else ([[dI a, dI b]].getD (i - l.length) [])) false) (rowv e 2 r2 (0, 0) l'))
  | app3 {e : TypeId} {l l' : List (Int × Int × Int)} {a b c : Int} (hl : l' = l ++ [(a, b, c)]) : QQ (.e (.row e 3 (l.length + 1) (fun i => if i < l.length then r3 (l.getD i (0, 0, 0)) else ([[dI a, dI b, dI c]].getD (i - l.length) [])) false) (rowv e 3 r3 (0, 0, 0) l'))
  | cms {id n m : Nat} (h : n = m) : QQ (.c (.ms id n) (.ms id m))
  | cint {k : IntKind} {a b : Int} (h : a = b) : QQ (.c (.d (.v (.int k a))) (.d (.v (.int k b))))
  | csll {α : Type} {s : Nat} {row : α → List D} {d : α} {l m : List α} (h : l = m) : QQ (.c (slv s row d l) (slv s row d m))
  | cnil {s : Nat} {g : Nat → List D} : QQ (.c (.d (.v (.slice none 0 0))) (.d (.sl s 0 g)))
  | cz {s : Nat} {g : Nat → List D} : QQ (.c .z (.d (.sl s 0 g)))
  | ctru {b : Bool} (h : b = true) : QQ (.c .tru (.d (.v (.bool b))))
  | cfls {b : Bool} (h : b = false) : QQ (.c .fls (.d (.v (.bool b))))
  | cbool {a b : Bool} (h : a = b) : QQ (.c (.d (.v (.bool a))) (.d (.v (.bool b))))
  | lit {α : Type} {s : Nat} {row : α → List D} {d : α} {l : List α} {rs : List (List D)} (h : rs = l.map row) : QQ (.v (.c (.d (.sl s rs.length fun i => rs.getD i []))) (.c (slv s row d l)))
  | clit {α : Type} {s : Nat} {row : α → List D} {d : α} {l : List α} {rs : List (List D)} (h : rs = l.map row) : QQ (.c (.d (.sl s rs.length fun i => rs.getD i [])) (slv s row d l))
  | fl {a b : Int} (h : a = b) : QQ (.v (.c (.fl a)) (.c (.fl b)))
  | cx {a b c d : Int} (h : a = c) (h2 : b = d) : QQ (.v (.c (.cx a b)) (.c (.cx c d)))
  | mp {m : Nat} {es es' : List (Int × Int)} (h : es = es') : QQ (.e (.mp m es) (.mp m es'))
  | drp {α : Type} {s k : Nat} {row : α → List D} {d : α} {l m : List α} (h : m = l.drop k) : QQ (.v (.c (.d (.sl s (l.length - k) fun i => row (l.getD (k + i) d)))) (.c (slv s row d m)))
  | tak {α : Type} {s k : Nat} {row : α → List D} {d : α} {l m : List α} (h : k ≤ l.length ∧ m = l.take k) : QQ (.v (.c (.d (.sl s k fun i => row (l.getD i d)))) (.c (slv s row d m)))
  | cut {α : Type} {s k j : Nat} {row : α → List D} {d : α} {l m : List α} (h : k ≤ j ∧ j ≤ l.length ∧ m = (l.take j).drop k) : QQ (.v (.c (.d (.sl s (j - k) fun i => row (l.getD (k + i) d)))) (.c (slv s row d m)))
  | dapp {α : Type} {s : Nat} {row : α → List D} {d : α} {l l' : List α} {r : List D} (h : ∃ x, r = row x ∧ l' = l ++ [x]) : QQ (.v (.c (.d (.sl s (l.length + 1) fun i => if i < l.length then row (l.getD i d) else ([r].getD (i - l.length) [])))) (.c (slv s row d l')))
  | appg {α : Type} {e : TypeId} {s : Nat} {row : α → List D} {d : α} {l l' : List α} {r : List D} (h : ∃ x, r = row x ∧ l' = l ++ [x]) : QQ (.e (.row e s (l.length + 1) (fun i => if i < l.length then row (l.getD i d) else ([r].getD (i - l.length) [])) false) (rowv e s row d l'))
  | apps {α : Type} {e : TypeId} {s : Nat} {row : α → List D} {d : α} {l m l' : List α} (h : l' = l ++ m) : QQ (.e (.row e s (l.length + m.length) (fun i => if i < l.length then row (l.getD i d) else row (m.getD (i - l.length) d)) false) (rowv e s row d l'))
  | setg {α : Type} {e : TypeId} {s i j : Nat} {row : α → List D} {d : α} {l l' : List α} {ds : List D} (h : ∃ x, putD (row (l.getD i d)) j ds = row x ∧ l' = l.set i x) : QQ (.e (.row e s l.length (setRw (fun k => row (l.getD k d)) i j ds) false) (rowv e s row d l'))
  | mk {α : Type} {e : TypeId} {s n : Nat} {row : α → List D} {d : α} {l : List α} {r : List D} (h : ∃ x, r = row x ∧ l = List.replicate n x) : QQ (.e (.row e s n (fun _ => r) false) (rowv e s row d l))
  | elit {α : Type} {e : TypeId} {s : Nat} {row : α → List D} {d : α} {l : List α} {rs : List (List D)} (h : rs = l.map row) : QQ (.e (.row e s rs.length (fun i => rs.getD i []) false) (rowv e s row d l))
  | rll {α : Type} {e : TypeId} {s : Nat} {row : α → List D} {d : α} {l m : List α} {b : Bool} (h : l = m) : QQ (.e (.row e s l.length (fun i => row (l.getD i d)) b) (.row e s m.length (fun i => row (m.getD i d)) b))
theorem setRw_eq {α : Type} {e : TypeId} {s : Nat} {row : α → List D} {d : α} {l l' : List α} {i j : Nat} {ds : List D} (x : α) (h : putD (row (l.getD i d)) j ds = row x) (hl : l' = l.set i x) : EEq (.row e s l.length (setRw (fun k => row (l.getD k d)) i j ds) false) (rowv e s row d l') := by
  subst hl
  refine EEq.rowl (by simp) fun k hk => ?_
  unfold Pw.setRw
  rw [List.getD_eq_getElem?_getD (l := l.set i x), List.getElem?_set]
  split
  · rename_i hb
    have hb := Nat.eq_of_beq_eq_true hb
    subst hb
    rw [h, if_pos rfl, if_pos hk]; rfl
  · rename_i hb
    have hb : ¬ i = k := fun h => by subst h; rw [Nat.beq_refl] at hb; cases hb
    rw [if_neg hb]; show row (l.getD k d) = _; rw [List.getD_eq_getElem?_getD]
theorem getD_drop' {α : Type} {d : α} {l : List α} {k i : Nat} : (l.drop k).getD i d = l.getD (k + i) d := by
  simp only [List.getD_eq_getElem?_getD, List.getElem?_drop]
theorem getD_take' {α : Type} {d : α} {l : List α} {k i : Nat} (h : i < k) : (l.take k).getD i d = l.getD i d := by
  simp only [List.getD_eq_getElem?_getD, List.getElem?_take, if_pos h]
theorem lit_eq {α : Type} {s : Nat} {row : α → List D} {d : α} {l : List α} {rs : List (List D)} (h : rs = l.map row) : CEq (.d (.sl s rs.length fun i => rs.getD i [])) (slv s row d l) := by
  subst h
  refine CEq.sl (by simp) fun i hi => ?_
  have hi : i < l.length := by simpa using hi
  rw [List.getD_eq_getElem?_getD, List.getD_eq_getElem?_getD, List.getElem?_map, List.getElem?_eq_getElem hi]
  rfl
theorem QQ.sound {q : QI} (h : QQ q) : q.so := by
  cases h with
  | vsn | csn | enn | eqn | stn => trivial
  | vsc h t => exact ⟨h, t⟩
  | csc h t => exact ⟨h, t⟩
  | enc h c r => exact ⟨⟨h, cloB_ok c⟩, r⟩
  | eqc h r => exact ⟨h, r⟩
  | stc g h r => exact ⟨by rw [g]; exact h, r⟩
  | vr x => exact VEq.refl x
  | er x => exact EEq.same x
  | cr x => exact CEq.refl x
  | tru h => exact VEq.tru h
  | fls h => exact VEq.fls h
  | bool h => exact VEq.bool h
  | int h => exact VEq.int h
  | nil => exact VEq.nil
  | z => exact .c _ _ (.z _ _)
  | li1 => exact VEq.li_1
  | li2 => exact VEq.li_2
  | li3 => exact VEq.li_3
  | li4 => exact VEq.li_4
  | lp1 => exact VEq.lp_1
  | lp2 => exact VEq.lp_2
  | lp3 => exact VEq.lp_3
  | lp4 => exact VEq.lp_4
  | lt1 => exact VEq.lt_1
  | lt2 => exact VEq.lt_2
  | lt3 => exact VEq.lt_3
  | ms h => exact VEq.ms h
  | sll h => exact VEq.sll h
  | aggs h => exact VEq.aggs h
  | boxs h => exact EEq.boxs h
  | app1 h => exact EEq.app1 h
  | app2 h => exact EEq.app2 h
  | app3 h => exact EEq.app3 h
  | cms h => exact CEq.ms h
  | cint h => exact CEq.int h
  | csll h => exact CEq.sll h
  | cnil => exact CEq.nil
  | cz => exact .z _ _
  | ctru h => subst h; exact .tru
  | cfls h => subst h; exact .fls
  | cbool h => subst h; exact .refl _
  | lit h => exact .c _ _ (lit_eq h)
  | clit h => exact lit_eq h
  | fl h => subst h; exact .refl _
  | cx h h2 => subst h; subst h2; exact .refl _
  | mp h => subst h; exact .mp _ _
  | drp h => subst h; exact .c _ _ (CEq.sl (by simp) fun i hi => by rw [getD_drop'])
  | tak h => obtain ⟨h1, rfl⟩ := h; exact .c _ _ (CEq.sl (by simp; omega) fun i hi => by rw [getD_take' hi])
  | cut h => obtain ⟨h1, h2, rfl⟩ := h; exact .c _ _ (CEq.sl (by simp; omega) fun i hi => by rw [getD_drop', getD_take' (by omega)])
  | dapp h => obtain ⟨x, h1, rfl⟩ := h; exact .c _ _ (CEq.sl (by simp) fun i hi => row_app h1 i hi)
  | appg h => obtain ⟨x, h1, h2⟩ := h; exact EEq.app x h1 h2
  | apps h =>
    subst h
    refine EEq.rowl (by simp) fun i hi => ?_
    split
    · rename_i hlt; rw [List.getD_eq_getElem?_getD, List.getD_eq_getElem?_getD, List.getElem?_append_left hlt]
    · rename_i hlt; rw [List.getD_eq_getElem?_getD, List.getD_eq_getElem?_getD, List.getElem?_append_right (by omega)]
  | setg h => obtain ⟨x, h1, h2⟩ := h; exact setRw_eq x h1 h2
  | mk h =>
    obtain ⟨x, rfl, rfl⟩ := h
    refine EEq.rowl (by simp) fun i hi => ?_
    rw [List.getD_eq_getElem?_getD, List.getElem?_replicate, if_pos hi]; rfl
  | elit h =>
    subst h
    refine EEq.rowl (by simp) fun i hi => ?_
    rw [List.length_map] at hi
    rw [List.getD_eq_getElem?_getD, List.getD_eq_getElem?_getD, List.getElem?_map, List.getElem?_eq_getElem hi]
    rfl
  | rll h => subst h; exact EEq.same _
theorem qS {q : QI} (h : QQ q) : q.so := h.sound
theorem qv {x y : V} (h : QI.so (.v x y)) : VEq x y := h
theorem qc {x y : C} (h : QI.so (.c x y)) : CEq x y := h
theorem qe {x y : Ent} (h : QI.so (.e x y)) : EEq x y := h
theorem qvs {x y : List V} (h : QI.so (.vs x y)) : VEqs x y := h
theorem qcs {x y : List C} (h : QI.so (.cs x y)) : CEqs x y := h
theorem qen {x y : List (Nat × V)} (h : QI.so (.en x y)) : envIs x y := h
theorem qeq {π : Nat → Nat} {x y : List (Nat × V)} (h : QI.so (.eq π x y)) : envEq π x y := h
theorem qst {π : Nat → Nat} {x y : Store} (h : QI.so (.st π x y)) : stoEq π x y := h
theorem qis {base : Nat} {st st0 : St} {l : List Nat} (h : QI.so (.eq (nmAt base l) st.env st0.env)) (h2 : QI.so (.st (nmAt base l) st.σ st0.σ)) (nm : (nmOk base st0.nx l && envLtB st0.nx st0.env && stoLtB st0.nx st0.σ) = true := by exact rfl) : Is base st st0 l := ⟨nm, h, h2⟩
section
variable {P : Program} [m : Mix P] {N base : Nat}
theorem rqK {nx nx' : Nat} {rl : List RL} {vs vs0 : List V} {e : Exit} {st : St} (hres : resAll st.env st.σ rl = some vs0) (hv : QI.so (.vs vs0 vs)) (he : e = .normal ∨ e = .ret := by first | exact .inr rfl | exact .inl rfl) (hle : nx ≤ nx' := by exact Nat.le_refl _) (hc : cloL vs := by simp only [cloL, clo, cloC, cloCs, and_self]) : RetQ nx rl vs [] nx' e st :=
  RetQ.plain hle he hres hc hv
theorem rqF {nx nx' : Nat} {rl : List RL} {vs vs0 : List V} {e : Exit} {env : List (Nat × V)} {σ : Store} {nx1 : Nat} (t : Nat) (id : Nat) {n : Nat} {ty : TypeId} {s m : Nat} {f : Nat → List D} {fz : Bool} (hres : resAll env σ rl = some vs0) (h : lk (argEnv 0 vs0) t = .c (.ms id n)) (hg : get σ id = some (.row ty s m f fz))
    (hv : QI.so (.en ((t, .c (.d (.sl s n f))) :: argEnv 0 vs0) (argEnv 0 vs))) (hl : Nat.beq vs0.length vs.length = true := by exact rfl) (hle : Nat.ble nx nx' = true := by exact rfl) (hn : n ≤ m := by exact Nat.le_refl _) (he : e = .normal ∨ e = .ret := by first | exact .inr rfl | exact .inl rfl) : RetQ nx rl vs [] nx' e ⟨env, σ, nx1⟩ :=
  RetQ.of he hres hl ((Mv.freeze t id h hg hn).trans (Mv.plain hle hv))
theorem pi1 {f : FuncId} {lc : LCode} {rl : List RL} {args : List V} {v : V} (hf : FnOk P f N lc rl) (h : wp P N 0 lc ⟨argEnv 0 args, [], 0⟩ (RetQ 0 rl [v] [] 0)) (hN : Nat.ble args.length N = true := by exact rfl) (hc : cloL args := by simp only [cloL, clo, cloC, cloCs, and_self]) : PFD P f args v := PFD.of (vs := [v]) hf hN hc h
theorem pi2 {f : FuncId} {lc : LCode} {rl : List RL} {args : List V} {v v2 : V} (hf : FnOk P f N lc rl) (h : wp P N 0 lc ⟨argEnv 0 args, [], 0⟩ (RetQ 0 rl [v, v2] [] 0)) (hN : Nat.ble args.length N = true := by exact rfl) (hc : cloL args := by simp only [cloL, clo, cloC, cloCs, and_self]) : PFD P f args (.tup [v, v2]) := PFD.of (vs := [v, v2]) hf hN hc h
theorem pi3 {f : FuncId} {lc : LCode} {rl : List RL} {args : List V} {v v2 v3 : V} (hf : FnOk P f N lc rl) (h : wp P N 0 lc ⟨argEnv 0 args, [], 0⟩ (RetQ 0 rl [v, v2, v3] [] 0)) (hN : Nat.ble args.length N = true := by exact rfl) (hc : cloL args := by simp only [cloL, clo, cloC, cloCs, and_self]) : PFD P f args (.tup [v, v2, v3]) := PFD.of (vs := [v, v2, v3]) hf hN hc h
theorem fits {env : List (Nat × V)} {xs : List Operand} {args : List V} (h : Fits env xs args := by first | exact Fits.eq rfl | exact Fits.veq (qvs (by (repeat' first | exact rfl | (refine qS ?_; constructor)) <;> fail))) : Fits env xs args := h
variable {dst : Option Nat} {fop : Operand} {xs : List Operand} {g : Option (Nat × Bool)} {rest : List LIns} {env : List (Nat × V)} {σ : Store} {nx : Nat} {K : St → Prop} {f : FuncId} {args : List V} {v : V} {p : Prop} {M : List Nat} {acc : List (Bool × List Nat)}
theorem A1.oK (hc : PFD P f args v) (hf : evo env fop = .c (.fn f [])) (hg : guardOf env g = .run) (ha : (xs.map (evo env)).map normA = args) (h : putK dst v env fun env' => wpOps P N base rest env' σ nx none K) : OpsL P N base (⟨dst, .call fop xs, g⟩ :: rest) ⟨env, σ, nx⟩ K := Ops.pc hf (Fits.eq ha) hc hg h
theorem A2.oK (hc : p → PFD P f args v) (hf : evo env fop = .c (.fn f [])) (hg : guardOf env g = .run) (ha : (xs.map (evo env)).map normA = args) (h : putK dst v env fun env' => wpOps P N base rest env' σ nx none K) (hp : p := by exact ob) : OpsL P N base (⟨dst, .call fop xs, g⟩ :: rest) ⟨env, σ, nx⟩ K := Ops.pc hf (Fits.eq ha) (hc hp) hg h
theorem A3.oK (hc : PFD P f args v) (hf : evo env fop = .c (.fn f [])) (hg : guardOf env g = .run) (ha : (xs.map (evo env)).map normA = args) (h : putK dst v env fun env' => wpD P N base M rest env' σ nx none ((false, []) :: acc) K) : OpsDL P N base M (⟨dst, .call fop xs, g⟩ :: rest) ⟨env, σ, nx⟩ acc K := OpsD.pc hf (Fits.eq ha) hc hg h
theorem A4.oK (hc : p → PFD P f args v) (hf : evo env fop = .c (.fn f [])) (hg : guardOf env g = .run) (ha : (xs.map (evo env)).map normA = args) (h : putK dst v env fun env' => wpD P N base M rest env' σ nx none ((false, []) :: acc) K) (hp : p := by exact ob) : OpsDL P N base M (⟨dst, .call fop xs, g⟩ :: rest) ⟨env, σ, nx⟩ acc K := OpsD.pc hf (Fits.eq ha) (hc hp) hg h
theorem A1.pK (hc : PFD P f args v) (hf : evo env fop = .c (.fn f [])) (hg : guardOf env g = .run) (h : putK dst v env fun env' => wpOps P N base rest env' σ nx none K) (ha : Fits env xs args := by exact fits) : OpsL P N base (⟨dst, .call fop xs, g⟩ :: rest) ⟨env, σ, nx⟩ K := Ops.pc hf ha hc hg h
theorem A2.pK (hc : p → PFD P f args v) (hf : evo env fop = .c (.fn f [])) (hg : guardOf env g = .run) (h : putK dst v env fun env' => wpOps P N base rest env' σ nx none K) (ha : Fits env xs args := by exact fits) (hp : p := by exact ob) : OpsL P N base (⟨dst, .call fop xs, g⟩ :: rest) ⟨env, σ, nx⟩ K := Ops.pc hf ha (hc hp) hg h
theorem A3.pK (hc : PFD P f args v) (hf : evo env fop = .c (.fn f [])) (hg : guardOf env g = .run) (h : putK dst v env fun env' => wpD P N base M rest env' σ nx none ((false, []) :: acc) K) (ha : Fits env xs args := by exact fits) : OpsDL P N base M (⟨dst, .call fop xs, g⟩ :: rest) ⟨env, σ, nx⟩ acc K := OpsD.pc hf ha hc hg h
theorem A4.pK (hc : p → PFD P f args v) (hf : evo env fop = .c (.fn f [])) (hg : guardOf env g = .run) (h : putK dst v env fun env' => wpD P N base M rest env' σ nx none ((false, []) :: acc) K) (ha : Fits env xs args := by exact fits) (hp : p := by exact ob) : OpsDL P N base M (⟨dst, .call fop xs, g⟩ :: rest) ⟨env, σ, nx⟩ acc K := OpsD.pc hf ha (hc hp) hg h
variable {rows : List (List D)}
theorem RIs.rfl' : ∀ (R : List V), RIs R R
  | [] => .nil
  | _ :: R => .cons (RI.refl _) (RIs.rfl' R)
theorem ris0 {X Y : List V} (h : X.map normA = Y) : RIs X Y := h ▸ ris_norm _
theorem ris1 {x y : V} {R : List V} (h : QI.so (.v x y)) : RIs (x :: R) (y :: R) := .cons (VEq.ri (qv h)) (RIs.rfl' R)
theorem ris2 {x y x2 y2 : V} {R : List V} (h : QI.so (.v x y)) (h2 : QI.so (.v x2 y2)) : RIs (x :: x2 :: R) (y :: y2 :: R) := .cons (VEq.ri (qv h)) (.cons (VEq.ri (qv h2)) (RIs.rfl' R))
theorem fitsR {X args : List V} (h : RIs X args := by first | exact ris0 rfl | (refine ris1 ?_; (repeat' first | exact rfl | (refine qS ?_; constructor)); done) | (refine ris2 ?_ ?_; (repeat' first | exact rfl | (refine qS ?_; constructor)); done) | (refine VEqs.ris (qvs ?_); (repeat' first | exact rfl | (refine qS ?_; constructor)); done)) : RIs X args := h
theorem A1.pR (hc : PFD P f args v) (hf : evo env fop = .c (.fnR f rows)) (hg : guardOf env g = .run) (h : putK dst v env fun env' => wpOps P N base rest env' σ nx none K) (ha : RIs (xs.map (evo env) ++ rows.map fun r => V.c (.rp r)) args := by exact fitsR) : OpsL P N base (⟨dst, .call fop xs, g⟩ :: rest) ⟨env, σ, nx⟩ K := Ops.pcR hf ha hc hg h
theorem A2.pR (hc : p → PFD P f args v) (hf : evo env fop = .c (.fnR f rows)) (hg : guardOf env g = .run) (h : putK dst v env fun env' => wpOps P N base rest env' σ nx none K) (ha : RIs (xs.map (evo env) ++ rows.map fun r => V.c (.rp r)) args := by exact fitsR) (hp : p := by exact ob) : OpsL P N base (⟨dst, .call fop xs, g⟩ :: rest) ⟨env, σ, nx⟩ K := Ops.pcR hf ha (hc hp) hg h
theorem A3.pR (hc : PFD P f args v) (hf : evo env fop = .c (.fnR f rows)) (hg : guardOf env g = .run) (h : putK dst v env fun env' => wpD P N base M rest env' σ nx none ((false, []) :: acc) K) (ha : RIs (xs.map (evo env) ++ rows.map fun r => V.c (.rp r)) args := by exact fitsR) : OpsDL P N base M (⟨dst, .call fop xs, g⟩ :: rest) ⟨env, σ, nx⟩ acc K := OpsD.pcR hf ha hc hg h
theorem A4.pR (hc : p → PFD P f args v) (hf : evo env fop = .c (.fnR f rows)) (hg : guardOf env g = .run) (h : putK dst v env fun env' => wpD P N base M rest env' σ nx none ((false, []) :: acc) K) (ha : RIs (xs.map (evo env) ++ rows.map fun r => V.c (.rp r)) args := by exact fitsR) (hp : p := by exact ob) : OpsDL P N base M (⟨dst, .call fop xs, g⟩ :: rest) ⟨env, σ, nx⟩ acc K := OpsD.pcR hf ha (hc hp) hg h
variable {ds : List D}
theorem A1.pB (hc : PFD P f args v) (hf : evo env fop = .c (.fnB f ds)) (hg : guardOf env g = .run) (h : putK dst v env fun env' => wpOps P N base rest env' σ nx none K) (ha : RIs (.agg (ds.map .d) :: xs.map (evo env)) args := by exact fitsR) : OpsL P N base (⟨dst, .call fop xs, g⟩ :: rest) ⟨env, σ, nx⟩ K := Ops.pcB hf ha hc hg h
theorem A2.pB (hc : p → PFD P f args v) (hf : evo env fop = .c (.fnB f ds)) (hg : guardOf env g = .run) (h : putK dst v env fun env' => wpOps P N base rest env' σ nx none K) (ha : RIs (.agg (ds.map .d) :: xs.map (evo env)) args := by exact fitsR) (hp : p := by exact ob) : OpsL P N base (⟨dst, .call fop xs, g⟩ :: rest) ⟨env, σ, nx⟩ K := Ops.pcB hf ha (hc hp) hg h
theorem A3.pB (hc : PFD P f args v) (hf : evo env fop = .c (.fnB f ds)) (hg : guardOf env g = .run) (h : putK dst v env fun env' => wpD P N base M rest env' σ nx none ((false, []) :: acc) K) (ha : RIs (.agg (ds.map .d) :: xs.map (evo env)) args := by exact fitsR) : OpsDL P N base M (⟨dst, .call fop xs, g⟩ :: rest) ⟨env, σ, nx⟩ acc K := OpsD.pcB hf ha hc hg h
theorem A4.pB (hc : p → PFD P f args v) (hf : evo env fop = .c (.fnB f ds)) (hg : guardOf env g = .run) (h : putK dst v env fun env' => wpD P N base M rest env' σ nx none ((false, []) :: acc) K) (ha : RIs (.agg (ds.map .d) :: xs.map (evo env)) args := by exact fitsR) (hp : p := by exact ob) : OpsDL P N base M (⟨dst, .call fop xs, g⟩ :: rest) ⟨env, σ, nx⟩ acc K := OpsD.pcB hf ha (hc hp) hg h
end
theorem liveId_setE {Γ : Cx} {σ : Store} {id : Nat} {x y : Ent} (hg : get σ id = some x) (h : EEq x y) (j : Nat) : LiveId Γ (set σ id y) j ↔ LiveId Γ σ j := by
  rw [liveId_iff, liveId_iff]
  by_cases hj : j = id
  · subst hj
    rw [get_set_same hg]
    constructor
    · rintro ⟨e, he, hl⟩; cases he; exact ⟨x, hg, h.live.1 hl⟩
    · rintro ⟨e, he, hl⟩; rw [hg] at he; cases he; exact ⟨y, rfl, h.live.2 hl⟩
  · rw [get_set_other hj]
theorem StoreOk.setE {Γ : Cx} {w : World} {σ : Store} {id : Nat} {x y : Ent} (hs : StoreOk Γ w σ) (hg : get σ id = some x) (h : EEq x y) : StoreOk Γ w (set σ id y) where
  im := hs.im
  ok := fun j e he => by
    by_cases hj : j = id
    · subst hj
      rw [get_set_same hg] at he; cases he
      obtain ⟨b, hb, hok⟩ := hs.ok j x hg
      exact ⟨b, hb, h.ent hok⟩
    · rw [get_set_other hj] at he; exact hs.ok j e he
  inj := fun i j k hi hj => hs.inj i j k ((liveId_setE hg h i).1 hi) ((liveId_setE hg h j).1 hj)
  lay := hs.lay
theorem Mv.ent {base : Nat} {env : List (Nat × V)} {σ : Store} {nx id : Nat} {x y : Ent} (hg : get σ id = some x) (h : EEq x y) : Mv base ⟨env, σ, nx⟩ ⟨env, set σ id y, nx⟩ := fun N B0 Γ w a hc => by
  have hl : ∀ k, Live Γ (set σ id y) k ↔ Live Γ σ k := fun k => ⟨fun ⟨i, hi, hk⟩ => ⟨i, (liveId_setE hg h i).1 hi, hk⟩, fun ⟨i, hi, hk⟩ => ⟨i, (liveId_setE hg h i).2 hi, hk⟩⟩
  refine ⟨Γ, ⟨hc.size, hc.env, hc.ok.setE hg h, hc.free, hc.le, ?_⟩, ⟨rfl, rfl, rfl, Nat.le_refl _, fun _ h => h, fun _ h => .inl h, fun _ _ => rfl, fun _ _ => rfl, fun _ _ _ => rfl, fun k hk => .inl ((hl k).1 hk)⟩⟩
  obtain ⟨Ds, d1, d2, d3⟩ := hc.dfs
  refine ⟨Ds, d1, d2, fun D hD => ?_⟩
  obtain ⟨d4, d5, d6, d7⟩ := d3 D hD
  exact ⟨d4, d5, fun hlv => d6 ((hl D).1 hlv), d7⟩
section
variable {P : Program} {N base : Nat} {env : List (Nat × V)} {σ : Store} {nx : Nat} {x y : Ent}
theorem OpsL.ent {ops : List LIns} {K : St → Prop} (id : Nat) (hg : get σ id = some x) (h : EEq x y) (k : frS (set σ id y) fun σ' => OpsL P N base ops ⟨env, σ', nx⟩ K) : OpsL P N base ops ⟨env, σ, nx⟩ K := by
  rw [frS_eq] at k
  exact ⟨Ops.from (Mv.ent hg h) k.h⟩
theorem OpsL.go {ops : List LIns} {K : St → Prop} (h : wpOps P N base ops env σ nx none K) : OpsL P N base ops ⟨env, σ, nx⟩ K := ⟨Ops.wp h⟩
theorem SatL.ent {c : LCode} {Q : Exit → St → Prop} (id : Nat) (hg : get σ id = some x) (h : EEq x y) (k : frS (set σ id y) fun σ' => SatL P N base c ⟨env, σ', nx⟩ Q) : SatL P N base c ⟨env, σ, nx⟩ Q := by
  rw [frS_eq] at k
  exact ⟨Sat.from (Mv.ent hg h) k.h⟩
theorem MvQ.ent {e : Exit} {Q : Exit → St → Prop} (id : Nat) (hg : get σ id = some x) (h : EEq x y) (k : frS (set σ id y) fun σ' => MvQ base Q e ⟨env, σ', nx⟩) : MvQ base Q e ⟨env, σ, nx⟩ := by
  rw [frS_eq] at k
  exact MvQ.from (Mv.ent hg h) k
theorem SatL.as {c : LCode} {Q : Exit → St → Prop} (t : Nat) (v : V) (h : VEq (lk env t) v) (k : SatL P N base c ⟨(t, v) :: env, σ, nx⟩ Q) : SatL P N base c ⟨env, σ, nx⟩ Q :=
  ⟨Sat.from (Mv.env fun t' => by
    rw [lk_cons]
    split
    · rename_i ht; subst ht; exact h.ri
    · exact RI.refl _) k.h⟩
theorem OpsL.as {ops : List LIns} {K : St → Prop} (t : Nat) (v : V) (h : VEq (lk env t) v) (k : OpsL P N base ops ⟨(t, v) :: env, σ, nx⟩ K) : OpsL P N base ops ⟨env, σ, nx⟩ K :=
  ⟨Ops.from (Mv.env fun t' => by
    rw [lk_cons]
    split
    · rename_i ht; subst ht; exact h.ri
    · exact RI.refl _) k.h⟩
theorem VEq.cut {α : Type} {s k j : Nat} {row : α → List D} {d : α} {l m : List α} (h1 : k ≤ j) (h2 : j ≤ l.length) (h : m = (l.take j).drop k) : VEq (.c (.d (.sl s (j - k) fun i => row (l.getD (k + i) d)))) (.c (slv s row d m)) := QQ.sound (.cut ⟨h1, h2, h⟩)
theorem SatL.frz {c : LCode} {Q : Exit → St → Prop} (t id : Nat) {n : Nat} {e : TypeId} {s m : Nat} {f : Nat → List D} {fz : Bool} (h : lk env t = .c (.ms id n)) (hg : get σ id = some (.row e s m f fz)) (hn : n ≤ m)
    (k : frS (set σ id (.row e s m f true)) fun σ' => SatL P N base c ⟨(t, .c (.d (.sl s n f))) :: env, σ', nx⟩ Q) : SatL P N base c ⟨env, σ, nx⟩ Q := by
  rw [frS_eq] at k
  exact ⟨Sat.from (Mv.freeze t id h hg hn) k.h⟩
end
theorem Mv.freezeX {base : Nat} {env : List (Nat × V)} {σ : Store} {nx : Nat} (idb j id : Nat) {cs : List C} {n : Nat} {e : TypeId} {s m : Nat} {f : Nat → List D} {fz : Bool} (hbx : get σ idb = some (.box cs)) (hj : cs[j]? = some (.ms id n)) (hg : get σ id = some (.row e s m f fz)) (hn : n ≤ m) :
    Mv base ⟨env, σ, nx⟩ ⟨env, set (set σ id (.row e s m f true)) idb (.box (putAt cs j (.d (.sl s n f)))), nx⟩ := fun N B0 Γ w a hc => by
  have hne : idb ≠ id := fun h => by subst h; rw [hbx] at hg; cases hg
  obtain ⟨Γ', b, hb, rfl, h1, h2⟩ := hc.freeze hg
  have hg' : get (set σ id (.row e s m f true)) idb = some (.box cs) := by rw [get_set_other hne]; exact hbx
  obtain ⟨b2, hb2, hok2⟩ := h1.ok.ok idb _ hg'
  obtain ⟨hI, xs, t, hh, hl, hr⟩ := hok2
  obtain ⟨b3, hb3, hok3⟩ := hc.ok.ok idb _ hbx
  have : b3 = b2 := by
    have e : Γ.ρ idb = some b2 := hb2
    rw [hb3] at e; cases e; rfl
  subst this
  obtain ⟨_, xs', t', hh', _, hr'⟩ := hok3
  rw [hh] at hh'; cases hh'
  have h3 := h1.ok.modify (w' := w) (e' := .box (putAt cs j (.d (.sl s n f)))) hg' hb2 trivial (Nat.le_refl _) (fun _ _ _ => rfl) ⟨hI, xs, t, hh, by rw [hl, putAt_length], fun i c hc' => by
    rw [putAt_get] at hc'
    split at hc'
    · rename_i hi
      cases hc'
      obtain ⟨rfl, hi⟩ := hi
      obtain ⟨x, hx, hrx⟩ := hr' i _ hj
      obtain ⟨b', hb', hd⟩ := ms_data hc.ok hg hn hrx
      rw [hb] at hb'; cases hb'
      exact ⟨x, hx, hd _ (fun k hk => .inl hk) (fun hcc => .inr ⟨rfl, hcc⟩)⟩
    · exact hr i c hc'⟩
  have hext : Ext base Γ w σ (Γ.also fun k => k = b ∧ ∃ c, Γ.κ id = some c) w (set (set σ id (.row e s m f true)) idb (.box (putAt cs j (.d (.sl s n f))))) :=
    ⟨h2.os, h2.tape, h2.output, h2.size, h2.im, h2.new, h2.ρ, h2.κ, h2.keep, fun k hk => h2.live k (live_set hg' trivial hk)⟩
  refine ⟨_, ⟨h1.size, h1.env, h3, h1.free, h1.le, ?_⟩, hext⟩
  obtain ⟨Ds, d1, d2, d3⟩ := h1.dfs
  refine ⟨Ds, d1, d2, fun D hD => ?_⟩
  obtain ⟨d4, d5, d6, d7⟩ := d3 D hD
  exact ⟨d4, d5, fun hlv => d6 (live_set hg' trivial hlv), d7⟩
section
variable {P : Program} {N base : Nat}
theorem MvQ.frzX {Q : Exit → St → Prop} {x : Exit} {env : List (Nat × V)} {σ : Store} {nx : Nat} (idb j id : Nat) {cs : List C} {n : Nat} {e : TypeId} {s m : Nat} {f : Nat → List D} {fz : Bool} (hbx : get σ idb = some (.box cs)) (hj : cs[j]? = some (.ms id n)) (hg : get σ id = some (.row e s m f fz)) (hn : n ≤ m)
    (k : frS (set (set σ id (.row e s m f true)) idb (.box (putAt cs j (.d (.sl s n f))))) fun σ' => MvQ base Q x ⟨env, σ', nx⟩) : MvQ base Q x ⟨env, σ, nx⟩ := by
  rw [frS_eq] at k
  exact MvQ.from (Mv.freezeX idb j id hbx hj hg hn) k
theorem OpsL.frzX {ops : List LIns} {K : St → Prop} {env : List (Nat × V)} {σ : Store} {nx : Nat} (idb j id : Nat) {cs : List C} {n : Nat} {e : TypeId} {s m : Nat} {f : Nat → List D} {fz : Bool} (hbx : get σ idb = some (.box cs)) (hj : cs[j]? = some (.ms id n)) (hg : get σ id = some (.row e s m f fz)) (hn : n ≤ m)
    (k : frS (set (set σ id (.row e s m f true)) idb (.box (putAt cs j (.d (.sl s n f))))) fun σ' => OpsL P N base ops ⟨env, σ', nx⟩ K) : OpsL P N base ops ⟨env, σ, nx⟩ K := by
  rw [frS_eq] at k
  exact ⟨Ops.from (Mv.freezeX idb j id hbx hj hg hn) k.h⟩
theorem SatL.frzX {c : LCode} {Q : Exit → St → Prop} {env : List (Nat × V)} {σ : Store} {nx : Nat} (idb j id : Nat) {cs : List C} {n : Nat} {e : TypeId} {s m : Nat} {f : Nat → List D} {fz : Bool} (hbx : get σ idb = some (.box cs)) (hj : cs[j]? = some (.ms id n)) (hg : get σ id = some (.row e s m f fz)) (hn : n ≤ m)
    (k : frS (set (set σ id (.row e s m f true)) idb (.box (putAt cs j (.d (.sl s n f))))) fun σ' => SatL P N base c ⟨env, σ', nx⟩ Q) : SatL P N base c ⟨env, σ, nx⟩ Q := by
  rw [frS_eq] at k
  exact ⟨Sat.from (Mv.freezeX idb j id hbx hj hg hn) k.h⟩
theorem nmAt_nil (base : Nat) : nmAt base [] = id := by
  funext i
  unfold nmAt
  split <;> rfl
theorem CallD.of [m : Mix P] {f : FuncId} {lc : LCode} {rl : List RL} {args vs : List V} {σ σ' : Store} {nx nx' : Nat} (hf : FnOk P f N lc rl) (hN : Nat.ble args.length N = true) (hle : Nat.ble nx nx' = true) (hin : Is nx ⟨argEnv 0 args, σ, nx⟩ ⟨argEnv 0 args, σ, nx⟩ [])
    (h : wp P N nx lc ⟨argEnv 0 args, σ, nx⟩ (RetQ nx rl vs σ' nx')) : CallD P f args σ nx (retV vs) σ' nx' := by
  obtain ⟨hent, own, fn, h1, h2⟩ := hf
  have := hin.wk
  rw [nmAt_nil] at this
  exact CallD.enter h1 hent h2 (Nat.le_of_ble_eq_true hN) (Nat.le_of_ble_eq_true hle) this (Sat.of h)
theorem RetQ.is {nx nx' : Nat} {rl : List RL} {vs : List V} {σ' : Store} {e : Exit} {env : List (Nat × V)} (hres : resAll env σ' rl = some vs) (he : e = .normal ∨ e = .ret := by first | exact .inr rfl | exact .inl rfl) : RetQ nx rl vs σ' nx' e ⟨env, σ', nx'⟩ :=
  ⟨he, vs, hres, rfl, Mv.refl _ _⟩
end
def DI (d e : D) : Prop := ∀ (I : Nat → Prop) (w : World) (u : Value), RepD I w d u → RepD I w e u
theorem DI.refl (d : D) : DI d d := fun _ _ _ h => h
def DIs (ds es : List D) : Prop := ds.length = es.length ∧ ∀ (j : Nat) d e, ds[j]? = some d → es[j]? = some e → DI d e
theorem DIs.nil : DIs [] [] := ⟨rfl, fun j d e h => by simp at h⟩
theorem DIs.cons {d e : D} {ds es : List D} (h : DI d e) (k : DIs ds es) : DIs (d :: ds) (e :: es) := ⟨by simp [k.1], fun j a b ha hb => by
  cases j with
  | zero => simp at ha hb; subst ha; subst hb; exact h
  | succ j => exact k.2 j a b (by simpa using ha) (by simpa using hb)⟩
theorem DIs.refl (ds : List D) : DIs ds ds := ⟨rfl, fun j d e h h' => by rw [h] at h'; cases h'; exact DI.refl d⟩
theorem DI.sl {s n : Nat} {f g : Nat → List D} (h : ∀ i, i < n → DIs (f i) (g i)) : DI (.sl s n f) (.sl s n g) := fun I w u hu => by
  cases hu with
  | slE s f A c => exact .slE _ _ _ _
  | sl s n f ad c U hn hI hs hc hr =>
    have get : ∀ i j e, i < n → (g i)[j]? = some e → ∃ d, (f i)[j]? = some d ∧ DI d e := fun i j e hi he => by
      have hj : j < (f i).length := by rw [(h i hi).1]; exact (List.getElem?_eq_some_iff.1 he).1
      exact ⟨(f i)[j], List.getElem?_eq_getElem hj, (h i hi).2 j _ _ (List.getElem?_eq_getElem hj) he⟩
    refine .sl s n g ad c U hn hI (fun i hi => by rw [← (h i hi).1]; exact hs i hi) (fun i j e hi he => ?_) (fun i j e hi he => ?_)
    · obtain ⟨d, hd, _⟩ := get i j e hi he
      exact hc i j d hi hd
    · obtain ⟨d, hd, hde⟩ := get i j e hi he
      exact hde _ _ _ (hr i j d hi hd)
theorem RI.aggI {ds es : List D} (h : DIs ds es) : RI (.agg (ds.map .d)) (.agg (es.map .d)) := fun Γ w u hu => by
  cases hu with
  | agg cs us hl hr =>
    refine .agg _ _ (by rw [hl]; simp [h.1]) fun i c u hc hu => ?_
    simp only [List.getElem?_map, Option.map_eq_some_iff] at hc
    obtain ⟨e, he, rfl⟩ := hc
    have hj : i < ds.length := by rw [h.1]; exact (List.getElem?_eq_some_iff.1 he).1
    exact h.2 i _ _ (List.getElem?_eq_getElem hj) he _ _ _ (hr i (.d ds[i]) u (by simp [hj]) hu)
theorem RI.cI {d e : D} (h : DI d e) : RI (.c (.d d)) (.c (.d e)) := fun Γ w u hu => by
  cases hu with
  | c x u hr => exact .c _ _ (h _ _ _ hr)
end Go.Pw
set_option linter.unusedSimpArgs false
set_option linter.unusedVariables false
namespace Go.Pw
open Go
theorem mbd {a b A B : Int} (ha : -A ≤ a ∧ a ≤ A) (hb : -B ≤ b ∧ b ≤ B) : -(A * B) ≤ a * b ∧ a * b ≤ A * B := by
  have hA : 0 ≤ A := by omega
  have hB : 0 ≤ B := by omega
  have h : (a * b).natAbs ≤ (A * B).natAbs := by
    rw [Int.natAbs_mul, Int.natAbs_mul]
    exact Nat.mul_le_mul (by omega) (by omega)
  have : 0 ≤ A * B := Int.mul_nonneg hA hB
  omega
abbrev wi (n lo hi : Int) : Bool := decide (lo ≤ n ∧ n ≤ hi)
def unb : Bool → Int → Int
  | true, _ => 0
  | false, e => e
abbrev unl (p : Prop) [Decidable p] (e : Int) : Int := unb (decide p) e
def fstE : List Int → Int
  | [] => 0
  | e :: l => if e = 0 then fstE l else e
theorem fstE_drop (l : List Int) (k : Nat) (h : k < l.length) : fstE (l.drop k) = if l.getD k 0 = 0 then fstE (l.drop (k + 1)) else l.getD k 0 := by
  rw [List.drop_eq_getElem_cons h, fstE, List.getD_eq_getElem?_getD, List.getElem?_eq_getElem h]
  rfl
abbrev Md (n : Int) : Prop := -4611686018427387904 ≤ n ∧ n ≤ 4611686018427387904
theorem ext_getD {α : Type} (d : α) {l m : List α} (hl : l.length = m.length) (h : ∀ i, i < l.length → l.getD i d = m.getD i d) : l = m := by
  refine List.ext_getElem hl fun i h1 h2 => ?_
  have := h i h1
  simpa [List.getD_eq_getElem?_getD, h1, h2] using this
abbrev Lk := Int × Int × Int
abbrev Rg := Int × Int
abbrev lkOk (k : Lk) : Prop := (1 ≤ k.1 ∧ k.1 ≤ 1000) ∧ (-1000 ≤ k.2.1 ∧ k.2.1 ≤ 1000) ∧ 0 ≤ k.2.2 ∧ k.2.2 ≤ 20
abbrev curOk (n : Int) : Prop := -50 ≤ n ∧ n ≤ 50
theorem fstE_ok : ∀ {l : List Int}, fstE l = 0 ↔ ∀ e ∈ l, e = 0
  | [] => by simp [fstE]
  | e :: l => by
    rw [fstE]
    split
    · rename_i h; rw [fstE_ok (l := l)]; simp [h]
    · rename_i h; simp [h]
theorem unb_ok {b : Bool} {e : Int} (he : e ≠ 0) : unb b e = 0 ↔ b = true := by cases b <;> simp [unb, he]
structure LnOk (x z : Int) (l : List Lk) : Prop where
  x : -10000 ≤ x ∧ x ≤ 10000
  z : -10000 ≤ z ∧ z ≤ 10000
  n : 0 < l.length ∧ l.length ≤ 10
  l : ∀ k ∈ l, lkOk k
structure Ln where
  x : Int
  z : Int
  l : List Lk
  b : List Rg
abbrev Ln.v (L : Ln) : List C := [int L.x, int L.z, trs L.l, prs L.b]
def Ln.h (L : Ln) (k : Nat) : Int := (L.l.getD k (0, 0, 0)).1
def Ln.w (L : Ln) (k : Nat) : Int := (L.l.getD k (0, 0, 0)).2.1
def Ln.d (L : Ln) (k : Nat) : Int := (L.l.getD k (0, 0, 0)).2.2
def Ln.lo (L : Ln) (k : Nat) : Int := (L.b.getD k (0, 0)).1
def Ln.hi (L : Ln) (k : Nat) : Int := (L.b.getD k (0, 0)).2
def Ln.pl (L : Ln) : Nat → Int
  | 0 => L.x
  | k + 1 => L.pl k + L.d k * L.lo k
def Ln.ph (L : Ln) : Nat → Int
  | 0 => L.x
  | k + 1 => L.ph k + L.d k * L.hi k
def Ln.pz (L : Ln) : Nat → Int
  | 0 => L.z
  | k + 1 => L.pz k + L.w k
def Ln.hh (L : Ln) : Nat → Int
  | 0 => 0
  | k + 1 => L.h k
structure Ln.Ok (L : Ln) : Prop where
  k : LnOk L.x L.z L.l
  b : L.b.length = L.l.length
  c : ∀ r ∈ L.b, curOk r.1 ∧ curOk r.2 ∧ r.1 ≤ r.2
theorem getD_mem {α : Type} {l : List α} {k : Nat} (d : α) (h : k < l.length) : l.getD k d ∈ l := by
  rw [List.getD_eq_getElem?_getD, List.getElem?_eq_getElem h]; exact List.getElem_mem _
theorem Ln.Ok.lk {L : Ln} (h : L.Ok) {k : Nat} (hk : k < L.l.length) : (1 ≤ L.h k ∧ L.h k ≤ 1000) ∧ (-1000 ≤ L.w k ∧ L.w k ≤ 1000) ∧ 0 ≤ L.d k ∧ L.d k ≤ 20 := h.k.l _ (getD_mem _ hk)
theorem Ln.Ok.rg {L : Ln} (h : L.Ok) {k : Nat} (hk : k < L.l.length) : (-50 ≤ L.lo k ∧ L.lo k ≤ 50) ∧ (-50 ≤ L.hi k ∧ L.hi k ≤ 50) ∧ L.lo k ≤ L.hi k := h.c _ (getD_mem _ (by rw [h.b]; exact hk))
theorem Ln.Ok.dlo {L : Ln} (h : L.Ok) {k : Nat} (hk : k < L.l.length) : -1000 ≤ L.d k * L.lo k ∧ L.d k * L.lo k ≤ 1000 := by
  have h1 := h.lk hk
  have h2 := h.rg hk
  exact mbd (A := 20) (B := 50) (by omega) (by omega)
theorem Ln.Ok.dhi {L : Ln} (h : L.Ok) {k : Nat} (hk : k < L.l.length) : -1000 ≤ L.d k * L.hi k ∧ L.d k * L.hi k ≤ 1000 := by
  have h1 := h.lk hk
  have h2 := h.rg hk
  exact mbd (A := 20) (B := 50) (by omega) (by omega)
theorem Ln.Ok.bd {L : Ln} (h : L.Ok) : ∀ k : Nat, k ≤ L.l.length → (-20000 ≤ L.pl k ∧ L.pl k ≤ 20000) ∧ (-20000 ≤ L.ph k ∧ L.ph k ≤ 20000) ∧ -20000 ≤ L.pz k ∧ L.pz k ≤ 20000 := by
  have key : ∀ k : Nat, k ≤ L.l.length → (-10000 - 1000 * k ≤ L.pl k ∧ L.pl k ≤ 10000 + 1000 * k) ∧ (-10000 - 1000 * k ≤ L.ph k ∧ L.ph k ≤ 10000 + 1000 * k) ∧ -10000 - 1000 * k ≤ L.pz k ∧ L.pz k ≤ 10000 + 1000 * k := by
    intro k
    induction k with
    | zero => intro _; have := h.k.x; have := h.k.z; simp only [Ln.pl, Ln.ph, Ln.pz]; omega
    | succ k ih =>
      intro hk
      have := ih (by omega)
      have h1 := h.dlo (k := k) (by omega)
      have h2 := h.dhi (k := k) (by omega)
      have h3 := h.lk (k := k) (by omega)
      simp only [Ln.pl, Ln.ph, Ln.pz]
      omega
  intro k hk
  have := key k hk
  have := h.k.n
  omega
theorem Ln.Ok.round {L : Ln} (h : L.Ok) {k : Nat} (hk : k < L.l.length) :
    (-1000 ≤ (L.l.getD k (0, 0, 0)).2.2 * (L.b.getD k (0, 0)).1 ∧ (L.l.getD k (0, 0, 0)).2.2 * (L.b.getD k (0, 0)).1 ≤ 1000) ∧
    (-1000 ≤ (L.l.getD k (0, 0, 0)).2.2 * (L.b.getD k (0, 0)).2 ∧ (L.l.getD k (0, 0, 0)).2.2 * (L.b.getD k (0, 0)).2 ≤ 1000) ∧
    (-1000 ≤ (L.l.getD k (0, 0, 0)).2.1 ∧ (L.l.getD k (0, 0, 0)).2.1 ≤ 1000) ∧
    ((-20000 ≤ L.pl k ∧ L.pl k ≤ 20000) ∧ (-20000 ≤ L.ph k ∧ L.ph k ≤ 20000) ∧ -20000 ≤ L.pz k ∧ L.pz k ≤ 20000) ∧ L.b.length = L.l.length ∧ 0 < L.l.length ∧ L.l.length ≤ 10 :=
  ⟨h.dlo hk, h.dhi hk, (h.lk hk).2.1, h.bd k (by omega), h.b, h.k.n.1, h.k.n.2⟩
theorem map_take {α β : Type} (f : α → β) (d : α) (l : List α) (k : Nat) (h : k < l.length) : (l.take (k + 1)).map f = (l.take k).map f ++ [f (l.getD k d)] := by
  rw [List.take_succ_eq_append_getElem h, List.map_append, List.getD_eq_getElem?_getD, List.getElem?_eq_getElem h]; rfl
def fltL (p : Nat → Bool) (k : Nat) : List Int := ((List.range k).filter p).map fun i : Nat => (i : Int)
theorem fltL_succ (p : Nat → Bool) (k : Nat) : fltL p (k + 1) = if p k = true then fltL p k ++ [(k : Int)] else fltL p k := by
  simp only [fltL, List.range_succ, List.filter_append, List.map_append]
  by_cases h : p k = true <;> simp [h]
theorem fltL_len (p : Nat → Bool) (k : Nat) : (fltL p k).length ≤ k := by
  have := List.length_filter_le p (List.range k)
  simp [fltL] at *; exact this
end Go.Pw
set_option linter.unusedVariables false
set_option maxHeartbeats 2000000
set_option maxRecDepth 100000
namespace Go.Pw
open Go Go.Proofs
def lc4 : LCode :=
  (.seq (.region [⟨some 4, .boxS (.tmp 1), none⟩, ⟨some 6, .mv (.const (.bool false)), none⟩]) (.seq (.seq (.region [⟨some 31, .call (.func 24) [], none⟩, ⟨some 32, .un .not (.tmp
    31), none⟩]) (.cond (.tmp 32) (.seq (.region [⟨some 6, .mv (.const (.bool false)), none⟩]) .ret) .skip)) (.seq (.seq (.region [⟨some 33, .mv (.tmp 0), none⟩, ⟨some 34, .call
    (.func 25) [(.tmp 33)], none⟩, ⟨some 35, .un .not (.tmp 34), none⟩, ⟨some 36, .mv (.tmp 35), none⟩, ⟨some 37, .load true 5 (.tmp 4), some (36, false)⟩, ⟨some 38, .call (.func
    26) [(.tmp 37)], some (36, false)⟩, ⟨some 39, .un .not (.tmp 38), some (36, false)⟩, ⟨some 40, .pick (.tmp 36) (.const (.bool true)) (.tmp 39), none⟩, ⟨some 41, .mv (.tmp 40),
    none⟩, ⟨some 42, .mv (.tmp 2), some (41, false)⟩, ⟨some 43, .lenS (.tmp 42), some (41, false)⟩, ⟨some 44, .bin .gtr (.tmp 43) (.const (.int .i64 200)), some (41, false)⟩, ⟨some
    45, .mv (.tmp 44), some (41, false)⟩, ⟨some 46, .mv (.tmp 2), some (45, true)⟩, ⟨some 47, .lenS (.tmp 46), some (45, true)⟩, ⟨some 48, .bin .leq (.tmp 47) (.const (.int .i64
    60000)), some (45, true)⟩, ⟨some 49, .pick (.tmp 45) (.tmp 48) (.const (.bool false)), some (41, false)⟩, ⟨some 50, .pick (.tmp 41) (.const (.bool true)) (.tmp 49), none⟩, ⟨some
    51, .mv (.tmp 50), none⟩, ⟨some 52, .mv (.tmp 2), some (51, false)⟩, ⟨some 53, .lenS (.tmp 52), some (51, false)⟩, ⟨some 54, .bin .gtr (.tmp 53) (.const (.int .i64 60010)), some
    (51, false)⟩, ⟨some 55, .pick (.tmp 51) (.const (.bool true)) (.tmp 54), none⟩]) (.cond (.tmp 55) (.seq (.region [⟨some 6, .mv (.const (.bool true)), none⟩]) .ret) .skip)) (.seq
    (.regionD [⟨some 56, .mv (.tmp 0), none⟩, ⟨some 57, .call (.func 28) [(.tmp 56)], none⟩, ⟨some 58, .call (.func 27) [(.tmp 57)], none⟩, ⟨some 59, .load true 5 (.tmp 4), none⟩,
    ⟨some 60, .call (.func 30) [(.tmp 59)], none⟩, ⟨some 61, .call (.func 29) [(.tmp 60)], none⟩, ⟨some 62, .fld 4 (.tmp 4), none⟩, ⟨some 63, .load false 1 (.tmp 62), none⟩, ⟨some
    64, .call (.func 32) [(.tmp 63)], none⟩, ⟨some 65, .call (.func 31) [(.tmp 64)], none⟩, ⟨some 7, .mv (.tmp 58), none⟩, ⟨some 8, .mv (.tmp 61), none⟩, ⟨some 9, .mv (.tmp 65),
    none⟩] [0, 1, 3, 0, 15, 31, 0, 64, 255, 511, 1023, 2047, 4095] [0, 1, 2, 3, 4, 5, 6, 7, 8, 9, 10, 11, 12]) (.seq (.region [⟨some 67, .mv (.tmp 2), none⟩, ⟨some 68, .call (.func
    33) [(.tmp 67)], none⟩, ⟨some 66, .mv (.tmp 68), none⟩, ⟨some 69, .ext (.tmp 66) 0, none⟩, ⟨some 70, .ext (.tmp 66) 1, none⟩, ⟨some 10, .mv (.tmp 69), none⟩, ⟨some 11, .mv (.tmp
    70), none⟩]) (.seq (.region [⟨some 72, .mv (.tmp 2), none⟩, ⟨some 73, .call (.func 34) [(.tmp 72)], none⟩, ⟨some 71, .mv (.tmp 73), none⟩, ⟨some 74, .ext (.tmp 71) 0, none⟩,
    ⟨some 75, .ext (.tmp 71) 1, none⟩, ⟨some 12, .alloc [(.int .i64 0), (.int .i64 0), (.int .i64 0), (.int .i64 0), (.slice none 0 0)], none⟩, ⟨none, .store 5 (.tmp 12) (.tmp 74),
    none⟩, ⟨some 13, .mv (.tmp 75), none⟩]) (.seq (.region [⟨some 77, .mv (.tmp 2), none⟩, ⟨some 78, .call (.func 35) [(.tmp 77)], none⟩, ⟨some 76, .mv (.tmp 78), none⟩, ⟨some 79,
    .ext (.tmp 76) 0, none⟩, ⟨some 80, .ext (.tmp 76) 1, none⟩, ⟨some 14, .mv (.tmp 79), none⟩, ⟨some 15, .mv (.tmp 80), none⟩]) (.seq (.region [⟨some 82, .mv (.tmp 2), none⟩, ⟨some
    83, .call (.func 36) [(.tmp 82)], none⟩, ⟨some 81, .mv (.tmp 83), none⟩, ⟨some 84, .ext (.tmp 81) 0, none⟩, ⟨some 85, .ext (.tmp 81) 1, none⟩, ⟨some 16, .mv (.tmp 84), none⟩,
    ⟨some 17, .mv (.tmp 85), none⟩]) (.seq (.region [⟨some 87, .mv (.tmp 2), none⟩, ⟨some 88, .call (.func 37) [(.tmp 87)], none⟩, ⟨some 86, .mv (.tmp 88), none⟩, ⟨some 89, .ext
    (.tmp 86) 0, none⟩, ⟨some 90, .ext (.tmp 86) 1, none⟩, ⟨some 18, .alloc [(.int .i64 0), (.int .i64 0), (.int .i64 0), (.int .i64 0), (.slice none 0 0)], none⟩, ⟨none, .store 5
    (.tmp 18) (.tmp 89), none⟩, ⟨some 19, .mv (.tmp 90), none⟩]) (.seq (.region [⟨some 92, .mv (.tmp 2), none⟩, ⟨some 93, .call (.func 38) [(.tmp 92)], none⟩, ⟨some 91, .mv (.tmp
    93), none⟩, ⟨some 94, .ext (.tmp 91) 0, none⟩, ⟨some 95, .ext (.tmp 91) 1, none⟩, ⟨some 20, .mv (.tmp 94), none⟩, ⟨some 21, .mv (.tmp 95), none⟩]) (.seq (.seq (.region [⟨some
    96, .mv (.tmp 7), none⟩, ⟨some 97, .mv (.tmp 0), none⟩, ⟨some 98, .call (.func 39) [(.tmp 97)], none⟩, ⟨some 99, .eqS true (.tmp 96) (.tmp 98), none⟩, ⟨some 100, .mv (.tmp 99),
    none⟩, ⟨some 101, .mv (.tmp 8), some (100, false)⟩, ⟨some 102, .load true 5 (.tmp 4), some (100, false)⟩, ⟨some 103, .call (.func 40) [(.tmp 102)], some (100, false)⟩, ⟨some
    104, .eqS true (.tmp 101) (.tmp 103), some (100, false)⟩, ⟨some 105, .pick (.tmp 100) (.const (.bool true)) (.tmp 104), none⟩, ⟨some 106, .mv (.tmp 105), none⟩, ⟨some 107, .mv
    (.tmp 9), some (106, false)⟩, ⟨some 108, .fld 4 (.tmp 4), some (106, false)⟩, ⟨some 109, .load false 1 (.tmp 108), some (106, false)⟩, ⟨some 110, .call (.func 41) [(.tmp 109)],
    some (106, false)⟩, ⟨some 111, .eqS true (.tmp 107) (.tmp 110), some (106, false)⟩, ⟨some 112, .pick (.tmp 106) (.const (.bool true)) (.tmp 111), none⟩, ⟨some 113, .mv (.tmp
    112), none⟩, ⟨some 114, .mv (.tmp 11), some (113, false)⟩, ⟨some 115, .mv (.tmp 17), some (113, false)⟩, ⟨some 116, .bin .neq (.tmp 114) (.tmp 115), some (113, false)⟩, ⟨some
    117, .pick (.tmp 113) (.const (.bool true)) (.tmp 116), none⟩, ⟨some 118, .mv (.tmp 117), none⟩, ⟨some 119, .mv (.tmp 10), some (118, false)⟩, ⟨some 120, .mv (.tmp 16), some
    (118, false)⟩, ⟨some 121, .call (.func 42) [(.tmp 119), (.tmp 120)], some (118, false)⟩, ⟨some 122, .un .not (.tmp 121), some (118, false)⟩, ⟨some 123, .pick (.tmp 118) (.const
    (.bool true)) (.tmp 122), none⟩, ⟨some 124, .mv (.tmp 123), none⟩, ⟨some 125, .mv (.tmp 13), some (124, false)⟩, ⟨some 126, .mv (.tmp 19), some (124, false)⟩, ⟨some 127, .bin
    .neq (.tmp 125) (.tmp 126), some (124, false)⟩, ⟨some 128, .pick (.tmp 124) (.const (.bool true)) (.tmp 127), none⟩, ⟨some 129, .mv (.tmp 128), none⟩, ⟨some 130, .load true 5
    (.tmp 12), some (129, false)⟩, ⟨some 131, .load true 5 (.tmp 18), some (129, false)⟩, ⟨some 132, .call (.func 43) [(.tmp 130), (.tmp 131)], some (129, false)⟩, ⟨some 133, .un
    .not (.tmp 132), some (129, false)⟩, ⟨some 134, .pick (.tmp 129) (.const (.bool true)) (.tmp 133), none⟩, ⟨some 135, .mv (.tmp 134), none⟩, ⟨some 136, .mv (.tmp 15), some (135,
    false)⟩, ⟨some 137, .mv (.tmp 21), some (135, false)⟩, ⟨some 138, .bin .neq (.tmp 136) (.tmp 137), some (135, false)⟩, ⟨some 139, .pick (.tmp 135) (.const (.bool true)) (.tmp
    138), none⟩, ⟨some 140, .mv (.tmp 139), none⟩, ⟨some 141, .mv (.tmp 14), some (140, false)⟩, ⟨some 142, .mv (.tmp 20), some (140, false)⟩, ⟨some 143, .call (.func 44) [(.tmp
    141), (.tmp 142)], some (140, false)⟩, ⟨some 144, .un .not (.tmp 143), some (140, false)⟩, ⟨some 145, .pick (.tmp 140) (.const (.bool true)) (.tmp 144), none⟩]) (.cond (.tmp
    145) (.seq (.region [⟨some 6, .mv (.const (.bool false)), none⟩]) .ret) .skip)) (.seq (.seq (.region [⟨some 147, .mv (.tmp 0), none⟩, ⟨some 148, .call (.func 45) [(.tmp 147)],
    none⟩, ⟨some 146, .mv (.tmp 148), none⟩, ⟨some 149, .ext (.tmp 146) 0, none⟩, ⟨some 150, .ext (.tmp 146) 1, none⟩, ⟨some 22, .mv (.tmp 149), none⟩, ⟨some 23, .mv (.tmp 150),
    none⟩]) (.seq (.region [⟨some 151, .mv (.tmp 23), none⟩, ⟨some 152, .bin .neq (.tmp 151) (.const (.int .i64 0)), none⟩]) (.cond (.tmp 152) (.seq (.region [⟨some 6, .mv (.const
    (.bool true)), none⟩]) .ret) .skip))) (.seq (.region [⟨some 154, .mv (.tmp 7), none⟩, ⟨some 155, .call (.func 33) [(.tmp 154)], none⟩, ⟨some 153, .mv (.tmp 155), none⟩, ⟨some
    156, .ext (.tmp 153) 0, none⟩, ⟨some 157, .ext (.tmp 153) 1, none⟩, ⟨some 24, .mv (.tmp 156), none⟩, ⟨some 25, .mv (.tmp 157), none⟩]) (.seq (.seq (.region [⟨some 158, .mv (.tmp
    25), none⟩, ⟨some 159, .bin .neq (.tmp 158) (.const (.int .i64 0)), none⟩, ⟨some 160, .mv (.tmp 159), none⟩, ⟨some 161, .mv (.tmp 24), some (160, false)⟩, ⟨some 162, .mv (.tmp
    0), some (160, false)⟩, ⟨some 163, .call (.func 42) [(.tmp 161), (.tmp 162)], some (160, false)⟩, ⟨some 164, .un .not (.tmp 163), some (160, false)⟩, ⟨some 165, .pick (.tmp 160)
    (.const (.bool true)) (.tmp 164), none⟩]) (.cond (.tmp 165) (.seq (.region [⟨some 6, .mv (.const (.bool false)), none⟩]) .ret) .skip)) (.seq (.seq (.region [⟨some 166, .fld 0
    (.tmp 4), none⟩, ⟨some 167, .load false 1 (.tmp 166), none⟩, ⟨some 168, .call (.func 46) [(.tmp 167), (.const (.int .i64 0)), (.const (.int .i64 5))], none⟩, ⟨some 169, .un .not
    (.tmp 168), none⟩, ⟨some 170, .mv (.tmp 169), none⟩, ⟨some 171, .fld 1 (.tmp 4), some (170, false)⟩, ⟨some 172, .load false 1 (.tmp 171), some (170, false)⟩, ⟨some 173, .call
    (.func 46) [(.tmp 172), (.const (.int .i64 0)), (.const (.int .i64 100000))], some (170, false)⟩, ⟨some 174, .un .not (.tmp 173), some (170, false)⟩, ⟨some 175, .pick (.tmp 170)
    (.const (.bool true)) (.tmp 174), none⟩, ⟨some 176, .mv (.tmp 175), none⟩, ⟨some 177, .fld 2 (.tmp 4), some (176, false)⟩, ⟨some 178, .load false 1 (.tmp 177), some (176,
    false)⟩, ⟨some 179, .call (.func 46) [(.tmp 178), (.const (.int .i64 0)), (.const (.int .i64 100000000))], some (176, false)⟩, ⟨some 180, .un .not (.tmp 179), some (176,
    false)⟩, ⟨some 181, .pick (.tmp 176) (.const (.bool true)) (.tmp 180), none⟩, ⟨some 182, .mv (.tmp 181), none⟩, ⟨some 183, .fld 3 (.tmp 4), some (182, false)⟩, ⟨some 184, .load
    false 1 (.tmp 183), some (182, false)⟩, ⟨some 185, .call (.func 46) [(.tmp 184), (.const (.int .i64 0)), (.const (.int .i64 10000))], some (182, false)⟩, ⟨some 186, .un .not
    (.tmp 185), some (182, false)⟩, ⟨some 187, .pick (.tmp 182) (.const (.bool true)) (.tmp 186), none⟩]) (.cond (.tmp 187) (.seq (.region [⟨some 6, .mv (.const (.bool true)),
    none⟩]) .ret) .skip)) (.seq (.seq (.region [⟨some 26, .mv (.const (.int .i64 0)), none⟩]) (.block 0 (.loop (.seq (.seq (.region [⟨some 188, .mv (.tmp 26), none⟩, ⟨some 189, .fld
    4 (.tmp 4), none⟩, ⟨some 190, .load false 1 (.tmp 189), none⟩, ⟨some 191, .len (.tmp 190), none⟩, ⟨some 192, .bin .lss (.tmp 188) (.tmp 191), none⟩]) (.cond (.tmp 192) .skip
    (.exit 0))) (.seq (.block 1 (.seq (.region [⟨some 195, .fld 4 (.tmp 4), none⟩, ⟨some 196, .load false 1 (.tmp 195), none⟩, ⟨some 197, .mv (.tmp 26), none⟩, ⟨some 198, .idx 1
    (.tmp 196) (.tmp 197), none⟩, ⟨some 199, .load false 1 (.tmp 198), none⟩, ⟨some 200, .call (.func 46) [(.tmp 199), (.const (.int .i64 0)), (.const (.int .i64 6))], none⟩, ⟨some
    201, .un .not (.tmp 200), none⟩]) (.cond (.tmp 201) (.seq (.region [⟨some 6, .mv (.const (.bool true)), none⟩]) .ret) .skip))) (.region [⟨some 193, .mv (.tmp 26), none⟩, ⟨some
    194, .bin .add (.tmp 193) (.const (.int .i64 1)), none⟩, ⟨some 26, .mv (.tmp 194), none⟩])))))) (.seq (.region [⟨some 203, .mv (.tmp 8), none⟩, ⟨some 204, .call (.func 34)
    [(.tmp 203)], none⟩, ⟨some 202, .mv (.tmp 204), none⟩, ⟨some 205, .ext (.tmp 202) 0, none⟩, ⟨some 206, .ext (.tmp 202) 1, none⟩, ⟨some 27, .alloc [(.int .i64 0), (.int .i64 0),
    (.int .i64 0), (.int .i64 0), (.slice none 0 0)], none⟩, ⟨none, .store 5 (.tmp 27) (.tmp 205), none⟩, ⟨some 28, .mv (.tmp 206), none⟩]) (.seq (.region [⟨some 208, .mv (.tmp 9),
    none⟩, ⟨some 209, .call (.func 35) [(.tmp 208)], none⟩, ⟨some 207, .mv (.tmp 209), none⟩, ⟨some 210, .ext (.tmp 207) 0, none⟩, ⟨some 211, .ext (.tmp 207) 1, none⟩, ⟨some 29, .mv
    (.tmp 210), none⟩, ⟨some 30, .mv (.tmp 211), none⟩]) (.seq (.region [⟨some 212, .mv (.tmp 28), none⟩, ⟨some 213, .bin .eql (.tmp 212) (.const (.int .i64 0)), none⟩, ⟨some 214,
    .mv (.tmp 213), none⟩, ⟨some 215, .load true 5 (.tmp 27), some (214, true)⟩, ⟨some 216, .load true 5 (.tmp 4), some (214, true)⟩, ⟨some 217, .call (.func 43) [(.tmp 215), (.tmp
    216)], some (214, true)⟩, ⟨some 218, .pick (.tmp 214) (.tmp 217) (.const (.bool false)), none⟩, ⟨some 219, .mv (.tmp 218), none⟩, ⟨some 220, .mv (.tmp 30), some (219, true)⟩,
    ⟨some 221, .bin .eql (.tmp 220) (.const (.int .i64 0)), some (219, true)⟩, ⟨some 222, .pick (.tmp 219) (.tmp 221) (.const (.bool false)), none⟩, ⟨some 223, .mv (.tmp 222),
    none⟩, ⟨some 224, .mv (.tmp 29), some (223, true)⟩, ⟨some 225, .fld 4 (.tmp 4), some (223, true)⟩, ⟨some 226, .load false 1 (.tmp 225), some (223, true)⟩, ⟨some 227, .call
    (.func 44) [(.tmp 224), (.tmp 226)], some (223, true)⟩, ⟨some 228, .pick (.tmp 223) (.tmp 227) (.const (.bool false)), none⟩, ⟨some 6, .mv (.tmp 228), none⟩])
    .ret)))))))))))))))))))
theorem low4 : lowF Tryz.prog [4] Tryz.f4 = some (229, lc4.strip, [.tmp 6]) := by kernel_rfl
theorem fn4 : FnOk Tryz.prog 4 229 lc4 [.tmp 6] := ⟨Tryz.call4, [4], _, Tryz.func4, low4⟩
def lc24 : LCode :=
  (.seq (.region [⟨some 0, .mv (.const (.bool false)), none⟩]) (.seq (.region [⟨some 11, .call (.func 107) [], none⟩, ⟨some 12, .call (.func 108) [], none⟩, ⟨some 13, .call (.func
    106) [(.tmp 11), (.tmp 12), (.const (.int .i64 0))], none⟩, ⟨some 10, .mv (.tmp 13), none⟩, ⟨some 14, .ext (.tmp 10) 0, none⟩, ⟨some 15, .ext (.tmp 10) 1, none⟩, ⟨some 1, .alloc
    [(.int .i64 0), (.int .i64 0), (.int .i64 0), (.int .i64 0), (.slice none 0 0)], none⟩, ⟨none, .store 5 (.tmp 1) (.tmp 14), none⟩, ⟨some 2, .mv (.tmp 15), none⟩]) (.seq (.region
    [⟨some 17, .call (.func 107) [], none⟩, ⟨some 18, .lit false 3 1 [(.const (.int .i64 0))], none⟩, ⟨some 19, .build [(.int .i64 0), (.int .i64 0), (.int .i64 0), (.int .i64 0),
    (.slice none 0 0)] [(0, 1, (.const (.int .i64 1))), (1, 1, (.const (.int .i64 30))), (2, 1, (.const (.int .i64 250))), (3, 1, (.const (.int .i64 2))), (4, 1, (.tmp 18))], none⟩,
    ⟨some 20, .call (.func 76) [(.tmp 17), (.tmp 19)], none⟩, ⟨some 16, .mv (.tmp 20), none⟩, ⟨some 21, .ext (.tmp 16) 0, none⟩, ⟨some 22, .ext (.tmp 16) 1, none⟩, ⟨some 3, .mv
    (.tmp 21), none⟩, ⟨some 4, .mv (.tmp 22), none⟩]) (.seq (.region [⟨some 24, .call (.func 107) [], none⟩, ⟨some 25, .call (.func 108) [], none⟩, ⟨some 26, .call (.func 64) [(.tmp
    24), (.tmp 25)], none⟩, ⟨some 23, .mv (.tmp 26), none⟩, ⟨some 27, .ext (.tmp 23) 0, none⟩, ⟨some 28, .ext (.tmp 23) 1, none⟩, ⟨some 29, .ext (.tmp 23) 2, none⟩, ⟨some 5, .mv
    (.tmp 27), none⟩, ⟨some 6, .mv (.tmp 28), none⟩, ⟨some 7, .mv (.tmp 29), none⟩]) (.seq (.region [⟨some 31, .call (.func 107) [], none⟩, ⟨some 32, .call (.func 108) [], none⟩,
    ⟨some 33, .call (.func 71) [(.tmp 31), (.tmp 32)], none⟩, ⟨some 30, .mv (.tmp 33), none⟩, ⟨some 34, .ext (.tmp 30) 0, none⟩, ⟨some 35, .ext (.tmp 30) 1, none⟩, ⟨some 8, .mv
    (.tmp 34), none⟩, ⟨some 9, .mv (.tmp 35), none⟩]) (.seq (.region [⟨some 36, .mv (.tmp 2), none⟩, ⟨some 37, .bin .eql (.tmp 36) (.const (.int .i64 0)), none⟩, ⟨some 38, .mv (.tmp
    37), none⟩, ⟨some 39, .load true 5 (.tmp 1), some (38, true)⟩, ⟨some 40, .lit false 3 1 [(.const (.int .i64 0))], some (38, true)⟩, ⟨some 41, .build [(.int .i64 0), (.int .i64
    0), (.int .i64 0), (.int .i64 0), (.slice none 0 0)] [(0, 1, (.const (.int .i64 1))), (1, 1, (.const (.int .i64 30))), (2, 1, (.const (.int .i64 250))), (3, 1, (.const (.int
    .i64 2))), (4, 1, (.tmp 40))], some (38, true)⟩, ⟨some 42, .call (.func 43) [(.tmp 39), (.tmp 41)], some (38, true)⟩, ⟨some 43, .pick (.tmp 38) (.tmp 42) (.const (.bool false)),
    none⟩, ⟨some 44, .mv (.tmp 43), none⟩, ⟨some 45, .mv (.tmp 4), some (44, true)⟩, ⟨some 46, .bin .eql (.tmp 45) (.const (.int .i64 0)), some (44, true)⟩, ⟨some 47, .pick (.tmp
    44) (.tmp 46) (.const (.bool false)), none⟩, ⟨some 48, .mv (.tmp 47), none⟩, ⟨some 49, .mv (.tmp 3), some (48, true)⟩, ⟨some 50, .bin .eql (.tmp 49) (.const (.int .i64 170)),
    some (48, true)⟩, ⟨some 51, .pick (.tmp 48) (.tmp 50) (.const (.bool false)), none⟩, ⟨some 52, .mv (.tmp 51), none⟩, ⟨some 53, .mv (.tmp 7), some (52, true)⟩, ⟨some 54, .bin
    .eql (.tmp 53) (.const (.int .i64 0)), some (52, true)⟩, ⟨some 55, .pick (.tmp 52) (.tmp 54) (.const (.bool false)), none⟩, ⟨some 56, .mv (.tmp 55), none⟩, ⟨some 57, .mv (.tmp
    5), some (56, true)⟩, ⟨some 58, .lit false 3 1 [(.const (.int .i64 0)), (.const (.int .i64 2))], some (56, true)⟩, ⟨some 59, .call (.func 44) [(.tmp 57), (.tmp 58)], some (56,
    true)⟩, ⟨some 60, .pick (.tmp 56) (.tmp 59) (.const (.bool false)), none⟩, ⟨some 61, .mv (.tmp 60), none⟩, ⟨some 62, .mv (.tmp 6), some (61, true)⟩, ⟨some 63, .bin .eql (.tmp
    62) (.const (.int .i64 90)), some (61, true)⟩, ⟨some 64, .pick (.tmp 61) (.tmp 63) (.const (.bool false)), none⟩, ⟨some 65, .mv (.tmp 64), none⟩, ⟨some 66, .mv (.tmp 9), some
    (65, true)⟩, ⟨some 67, .bin .eql (.tmp 66) (.const (.int .i64 0)), some (65, true)⟩, ⟨some 68, .pick (.tmp 65) (.tmp 67) (.const (.bool false)), none⟩, ⟨some 69, .mv (.tmp 68),
    none⟩, ⟨some 70, .mv (.tmp 8), some (69, true)⟩, ⟨some 71, .lit false 3 1 [(.const (.int .i64 0)), (.const (.int .i64 1)), (.const (.int .i64 2))], some (69, true)⟩, ⟨some 72,
    .call (.func 44) [(.tmp 70), (.tmp 71)], some (69, true)⟩, ⟨some 73, .pick (.tmp 69) (.tmp 72) (.const (.bool false)), none⟩, ⟨some 0, .mv (.tmp 73), none⟩]) .ret))))))
theorem low24 : lowF Tryz.prog [] Tryz.f24 = some (74, lc24.strip, [.tmp 0]) := by kernel_rfl
theorem fn24 : FnOk Tryz.prog 24 74 lc24 [.tmp 0] := ⟨Tryz.call24, [], _, Tryz.func24, low24⟩
def lc25 : LCode :=
  (.seq (.region [⟨some 2, .mv (.const (.bool false)), none⟩]) (.seq (.seq (.region [⟨some 4, .mv (.tmp 0), none⟩, ⟨some 5, .len (.tmp 4), none⟩, ⟨some 6, .bin .gtr (.tmp 5) (.const
    (.int .i64 8)), none⟩]) (.cond (.tmp 6) (.seq (.region [⟨some 2, .mv (.const (.bool false)), none⟩]) .ret) .skip)) (.seq (.seq (.region [⟨some 3, .mv (.const (.int .i64 0)),
    none⟩]) (.block 0 (.loop (.seq (.seq (.region [⟨some 7, .mv (.tmp 3), none⟩, ⟨some 8, .mv (.tmp 0), none⟩, ⟨some 9, .len (.tmp 8), none⟩, ⟨some 10, .bin .lss (.tmp 7) (.tmp 9),
    none⟩]) (.cond (.tmp 10) .skip (.exit 0))) (.seq (.block 1 (.seq (.region [⟨some 13, .mv (.tmp 0), none⟩, ⟨some 14, .mv (.tmp 3), none⟩, ⟨some 15, .idx 9 (.tmp 13) (.tmp 14),
    none⟩, ⟨some 16, .fld 0 (.tmp 15), none⟩, ⟨some 17, .load false 1 (.tmp 16), none⟩, ⟨some 18, .lenS (.tmp 17), none⟩, ⟨some 19, .bin .gtr (.tmp 18) (.const (.int .i64 20)),
    none⟩, ⟨some 20, .mv (.tmp 19), none⟩, ⟨some 21, .mv (.tmp 0), some (20, false)⟩, ⟨some 22, .mv (.tmp 3), some (20, false)⟩, ⟨some 23, .idx 9 (.tmp 21) (.tmp 22), some (20,
    false)⟩, ⟨some 24, .fld 8 (.tmp 23), some (20, false)⟩, ⟨some 25, .load false 1 (.tmp 24), some (20, false)⟩, ⟨some 26, .len (.tmp 25), some (20, false)⟩, ⟨some 27, .bin .gtr
    (.tmp 26) (.const (.int .i64 8)), some (20, false)⟩, ⟨some 28, .pick (.tmp 20) (.const (.bool true)) (.tmp 27), none⟩]) (.cond (.tmp 28) (.seq (.region [⟨some 2, .mv (.const
    (.bool false)), none⟩]) .ret) .skip))) (.region [⟨some 11, .mv (.tmp 3), none⟩, ⟨some 12, .bin .add (.tmp 11) (.const (.int .i64 1)), none⟩, ⟨some 3, .mv (.tmp 12), none⟩]))))))
    (.seq (.region [⟨some 2, .mv (.const (.bool true)), none⟩]) .ret))))
theorem low25 : lowF Tryz.prog [] Tryz.f25 = some (29, lc25.strip, [.tmp 2]) := by kernel_rfl
theorem fn25 : FnOk Tryz.prog 25 29 lc25 [.tmp 2] := ⟨Tryz.call25, [], _, Tryz.func25, low25⟩
def lc26 : LCode :=
  (.seq (.region [⟨some 1, .boxS (.tmp 0), none⟩, ⟨some 2, .mv (.const (.bool false)), none⟩]) (.seq (.region [⟨some 3, .fld 4 (.tmp 1), none⟩, ⟨some 4, .load false 1 (.tmp 3),
    none⟩, ⟨some 5, .len (.tmp 4), none⟩, ⟨some 6, .bin .leq (.tmp 5) (.const (.int .i64 8)), none⟩, ⟨some 2, .mv (.tmp 6), none⟩]) .ret))
theorem low26 : lowF Tryz.prog [1] Tryz.f26 = some (7, lc26.strip, [.tmp 2]) := by kernel_rfl
theorem fn26 : FnOk Tryz.prog 26 7 lc26 [.tmp 2] := ⟨Tryz.call26, [1], _, Tryz.func26, low26⟩
def lc28 : LCode :=
  (.seq (.region [⟨some 2, .mv (.const (.slice none 0 0)), none⟩]) (.seq (.region [⟨some 3, .mv (.const (.slice none 0 0)), none⟩]) (.seq (.seq (.region [⟨some 4, .mv (.const (.int
    .i64 0)), none⟩]) (.block 0 (.loop (.seq (.seq (.region [⟨some 6, .mv (.tmp 4), none⟩, ⟨some 7, .mv (.tmp 0), none⟩, ⟨some 8, .len (.tmp 7), none⟩, ⟨some 9, .bin .lss (.tmp 6)
    (.tmp 8), none⟩]) (.cond (.tmp 9) .skip (.exit 0))) (.seq (.block 1 (.seq (.region [⟨some 12, .mv (.tmp 0), none⟩, ⟨some 13, .mv (.tmp 4), none⟩, ⟨some 14, .idx 9 (.tmp 12)
    (.tmp 13), none⟩, ⟨some 15, .load true 9 (.tmp 14), none⟩, ⟨some 5, .alloc [(.string ⟨#[]⟩), (.int .i64 0), (.int .i64 0), (.int .i64 0), (.int .i64 0), (.int .i64 0), (.int
    .i64 0), (.int .i64 0), (.slice none 0 0)], none⟩, ⟨none, .store 9 (.tmp 5) (.tmp 15), none⟩]) (.seq (.region [⟨some 16, .fld 8 (.tmp 5), none⟩, ⟨some 17, .load false 1 (.tmp
    16), none⟩, ⟨some 18, .call (.func 32) [(.tmp 17)], none⟩, ⟨some 19, .fld 8 (.tmp 5), none⟩, ⟨none, .store 1 (.tmp 19) (.tmp 18), none⟩]) (.region [⟨some 20, .mv (.tmp 3),
    none⟩, ⟨some 21, .load true 9 (.tmp 5), none⟩, ⟨some 22, .lit false 182 9 [(.tmp 21)], none⟩, ⟨some 23, .append true 182 9 96 (.tmp 20) (.tmp 22), none⟩, ⟨some 3, .mv (.tmp 23),
    none⟩])))) (.region [⟨some 10, .mv (.tmp 4), none⟩, ⟨some 11, .bin .add (.tmp 10) (.const (.int .i64 1)), none⟩, ⟨some 4, .mv (.tmp 11), none⟩])))))) (.seq (.region [⟨some 24,
    .mv (.tmp 3), none⟩, ⟨some 2, .mv (.tmp 24), none⟩]) .ret))))
theorem low28 : lowF Tryz.prog [23] Tryz.f28 = some (25, lc28.strip, [.tmp 2]) := by kernel_rfl
theorem fn28 : FnOk Tryz.prog 28 25 lc28 [.tmp 2] := ⟨Tryz.call28, [23], _, Tryz.func28, low28⟩
def lc29 : LCode :=
  (.seq (.region [⟨some 1, .boxS (.tmp 0), none⟩, ⟨some 2, .mv (.const (.string ⟨#[]⟩)), none⟩]) (.seq (.regionD [⟨some 3, .fld 0 (.tmp 1), none⟩, ⟨some 4, .load false 1 (.tmp 3),
    none⟩, ⟨some 5, .fld 1 (.tmp 1), none⟩, ⟨some 6, .load false 1 (.tmp 5), none⟩, ⟨some 7, .fld 2 (.tmp 1), none⟩, ⟨some 8, .load false 1 (.tmp 7), none⟩, ⟨some 9, .fld 3 (.tmp
    1), none⟩, ⟨some 10, .load false 1 (.tmp 9), none⟩, ⟨some 11, .lit false 3 1 [(.tmp 4), (.tmp 6), (.tmp 8), (.tmp 10)], none⟩, ⟨some 12, .call (.func 109) [(.tmp 11)], none⟩,
    ⟨some 13, .catS (.tmp 12) (.const (.string ⟨#[47]⟩)), none⟩, ⟨some 14, .fld 4 (.tmp 1), none⟩, ⟨some 15, .load false 1 (.tmp 14), none⟩, ⟨some 16, .call (.func 109) [(.tmp 15)],
    none⟩, ⟨some 17, .catS (.tmp 13) (.tmp 16), none⟩, ⟨some 2, .mv (.tmp 17), none⟩] [0, 1, 0, 4, 0, 16, 0, 64, 255, 511, 1023, 0, 2048, 7167, 16383, 32767] [0, 1, 2, 3, 4, 5, 6,
    7, 8, 9, 10, 11, 12, 13, 14, 15]) .ret))
theorem low29 : lowF Tryz.prog [1] Tryz.f29 = some (18, lc29.strip, [.tmp 2]) := by kernel_rfl
theorem fn29 : FnOk Tryz.prog 29 18 lc29 [.tmp 2] := ⟨Tryz.call29, [1], _, Tryz.func29, low29⟩
def lc30 : LCode :=
  (.seq (.region [⟨some 1, .box (.tmp 0), none⟩, ⟨some 2, .alloc [(.int .i64 0), (.int .i64 0), (.int .i64 0), (.int .i64 0), (.slice none 0 0)], none⟩]) (.seq (.region [⟨some 3,
    .fld 4 (.tmp 1), none⟩, ⟨some 4, .load false 1 (.tmp 3), none⟩, ⟨some 5, .call (.func 32) [(.tmp 4)], none⟩, ⟨some 6, .fld 4 (.tmp 1), none⟩, ⟨none, .store 1 (.tmp 6) (.tmp 5),
    none⟩]) (.seq (.region [⟨some 7, .load true 5 (.tmp 1), none⟩, ⟨none, .store 5 (.tmp 2) (.tmp 7), none⟩]) .ret)))
theorem low30 : lowF Tryz.prog [] Tryz.f30 = some (8, lc30.strip, [.cell 2 true 5]) := by kernel_rfl
theorem fn30 : FnOk Tryz.prog 30 8 lc30 [.cell 2 true 5] := ⟨Tryz.call30, [], _, Tryz.func30, low30⟩
def lc31 : LCode :=
  (.seq (.region [⟨some 2, .mv (.const (.string ⟨#[]⟩)), none⟩]) (.seq (.region [⟨some 3, .mv (.tmp 0), none⟩, ⟨some 4, .call (.func 109) [(.tmp 3)], none⟩, ⟨some 2, .mv (.tmp 4),
    none⟩]) .ret))
theorem low31 : lowF Tryz.prog [] Tryz.f31 = some (5, lc31.strip, [.tmp 2]) := by kernel_rfl
theorem fn31 : FnOk Tryz.prog 31 5 lc31 [.tmp 2] := ⟨Tryz.call31, [], _, Tryz.func31, low31⟩
def lc32 : LCode :=
  (.seq (.region [⟨some 2, .mv (.const (.slice none 0 0)), none⟩]) (.seq (.region [⟨some 3, .lit false 3 1 [], none⟩, ⟨some 4, .mv (.tmp 0), none⟩, ⟨some 5, .append false 3 1 8
    (.tmp 3) (.tmp 4), none⟩, ⟨some 2, .mv (.tmp 5), none⟩]) .ret))
theorem low32 : lowF Tryz.prog [] Tryz.f32 = some (6, lc32.strip, [.tmp 2]) := by kernel_rfl
theorem fn32 : FnOk Tryz.prog 32 6 lc32 [.tmp 2] := ⟨Tryz.call32, [], _, Tryz.func32, low32⟩
def ra33 : LCode :=
  (.region [⟨some 5, .mv (.tmp 21), none⟩])
def rb33 : LCode :=
  (.block 1 (.seq (.region [⟨some 23, .mv (.tmp 5), none⟩, ⟨some 24, .call (.func 111) [(.tmp 23), (.const (.string ⟨#[32]⟩))], none⟩, ⟨some 22, .mv (.tmp 24), none⟩, ⟨some 25, .ext
    (.tmp 22) 0, none⟩, ⟨some 26, .ext (.tmp 22) 1, none⟩, ⟨some 27, .ext (.tmp 22) 2, none⟩, ⟨some 6, .mv (.tmp 25), none⟩, ⟨some 7, .mv (.tmp 26), none⟩, ⟨some 8, .mv (.tmp 27),
    none⟩]) (.seq (.region [⟨some 29, .mv (.tmp 7), none⟩, ⟨some 30, .call (.func 112) [(.tmp 29), (.const (.int .i64 6))], none⟩, ⟨some 28, .mv (.tmp 30), none⟩, ⟨some 31, .ext
    (.tmp 28) 0, none⟩, ⟨some 32, .ext (.tmp 28) 1, none⟩, ⟨some 9, .mv (.tmp 31), none⟩, ⟨some 10, .mv (.tmp 32), none⟩]) (.seq (.seq (.region [⟨some 33, .mv (.tmp 10), none⟩,
    ⟨some 34, .un .not (.tmp 33), none⟩, ⟨some 35, .mv (.tmp 34), none⟩, ⟨some 36, .mv (.tmp 6), some (35, false)⟩, ⟨some 37, .eqS false (.tmp 36) (.const (.string ⟨#[]⟩)), some
    (35, false)⟩, ⟨some 38, .pick (.tmp 35) (.const (.bool true)) (.tmp 37), none⟩, ⟨some 39, .mv (.tmp 38), none⟩, ⟨some 40, .mv (.tmp 9), some (39, false)⟩, ⟨some 41, .len (.tmp
    40), some (39, false)⟩, ⟨some 42, .bin .lss (.tmp 41) (.const (.int .i64 7)), some (39, false)⟩, ⟨some 43, .pick (.tmp 39) (.const (.bool true)) (.tmp 42), none⟩]) (.cond (.tmp
    43) (.seq (.region [⟨none, .store 1 (.tmp 2) (.const (.slice none 0 0)), none⟩, ⟨none, .store 1 (.tmp 3) (.const (.int .i64 7)), none⟩]) .ret) .skip)) (.seq (.region [⟨some 44,
    .mv (.tmp 9), none⟩, ⟨some 45, .arrP 1 7 (.tmp 44), none⟩, ⟨some 46, .load true 7 (.tmp 45), none⟩, ⟨some 11, .alloc [(.int .i64 0), (.int .i64 0), (.int .i64 0), (.int .i64 0),
    (.int .i64 0), (.int .i64 0), (.int .i64 0)], none⟩, ⟨none, .store 7 (.tmp 11) (.tmp 46), none⟩]) (.regionD [⟨some 47, .load false 1 (.tmp 4), none⟩, ⟨some 48, .mv (.tmp 6),
    none⟩, ⟨some 49, .idxA 1 7 (.tmp 11) (.const (.int .i64 0)), none⟩, ⟨some 50, .load false 1 (.tmp 49), none⟩, ⟨some 51, .idxA 1 7 (.tmp 11) (.const (.int .i64 1)), none⟩, ⟨some
    52, .load false 1 (.tmp 51), none⟩, ⟨some 53, .idxA 1 7 (.tmp 11) (.const (.int .i64 2)), none⟩, ⟨some 54, .load false 1 (.tmp 53), none⟩, ⟨some 55, .idxA 1 7 (.tmp 11) (.const
    (.int .i64 3)), none⟩, ⟨some 56, .load false 1 (.tmp 55), none⟩, ⟨some 57, .idxA 1 7 (.tmp 11) (.const (.int .i64 4)), none⟩, ⟨some 58, .load false 1 (.tmp 57), none⟩, ⟨some 59,
    .idxA 1 7 (.tmp 11) (.const (.int .i64 5)), none⟩, ⟨some 60, .load false 1 (.tmp 59), none⟩, ⟨some 61, .idxA 1 7 (.tmp 11) (.const (.int .i64 6)), none⟩, ⟨some 62, .load false 1
    (.tmp 61), none⟩, ⟨some 63, .build [(.int .i64 0), (.int .i64 0)] [(0, 1, (.tmp 60)), (1, 1, (.tmp 62))], none⟩, ⟨some 64, .mv (.tmp 9), none⟩, ⟨some 65, .slc 1 (.tmp 64) (some
    (.const (.int .i64 7))) none, none⟩, ⟨some 66, .build [(.string ⟨#[]⟩), (.int .i64 0), (.int .i64 0), (.int .i64 0), (.int .i64 0), (.int .i64 0), (.int .i64 0), (.int .i64 0),
    (.slice none 0 0)] [(0, 1, (.tmp 48)), (1, 1, (.tmp 50)), (2, 1, (.tmp 52)), (3, 1, (.tmp 54)), (4, 1, (.tmp 56)), (5, 1, (.tmp 58)), (6, 2, (.tmp 63)), (8, 1, (.tmp 65))],
    none⟩, ⟨some 67, .lit false 182 9 [(.tmp 66)], none⟩, ⟨some 68, .append true 182 9 96 (.tmp 47) (.tmp 67), none⟩, ⟨none, .store 1 (.tmp 4) (.tmp 68), none⟩] [0, 0, 0, 4, 0, 16,
    0, 64, 0, 256, 0, 1024, 0, 4096, 0, 16384, 61440, 0, 131072, 524286, 1048574, 2097151, 4194303] [0, 1, 2, 3, 4, 5, 6, 7, 8, 9, 10, 11, 12, 13, 14, 15, 16, 17, 18, 19, 20, 21,
    22]))))))
def lc33 : LCode :=
  (.seq (.region [⟨some 2, .alloc [(.slice none 0 0)], none⟩, ⟨some 3, .alloc [(.int .i64 0)], none⟩]) (.seq (.seq (.region [⟨some 14, .mv (.tmp 0), none⟩, ⟨some 15, .lenS (.tmp
    14), none⟩, ⟨some 16, .bin .gtr (.tmp 15) (.const (.int .i64 60000)), none⟩]) (.cond (.tmp 16) (.seq (.region [⟨none, .store 1 (.tmp 2) (.const (.slice none 0 0)), none⟩, ⟨none,
    .store 1 (.tmp 3) (.const (.int .i64 8)), none⟩]) .ret) .skip)) (.seq (.seq (.region [⟨some 17, .mv (.tmp 0), none⟩, ⟨some 18, .eqS false (.tmp 17) (.const (.string ⟨#[]⟩)),
    none⟩]) (.cond (.tmp 18) (.seq (.region [⟨none, .store 1 (.tmp 2) (.const (.slice none 0 0)), none⟩, ⟨none, .store 1 (.tmp 3) (.const (.int .i64 0)), none⟩]) .ret) .skip)) (.seq
    (.region [⟨some 4, .alloc [(.slice none 0 0)], none⟩]) (.seq (.seq (.region [⟨some 19, .mv (.tmp 0), none⟩, ⟨some 20, .call (.func 110) [(.tmp 19), (.const (.string ⟨#[59]⟩))],
    none⟩]) (.block 0 (.rangeFunc (.tmp 20) [21] ra33 rb33))) (.seq (.seq (.region [⟨some 70, .load false 1 (.tmp 4), none⟩, ⟨some 71, .call (.func 113) [(.tmp 70)], none⟩, ⟨some
    69, .mv (.tmp 71), none⟩, ⟨some 72, .ext (.tmp 69) 0, none⟩, ⟨some 73, .ext (.tmp 69) 1, none⟩, ⟨some 12, .mv (.tmp 72), none⟩, ⟨some 13, .mv (.tmp 73), none⟩]) (.seq (.region
    [⟨some 74, .mv (.tmp 13), none⟩, ⟨some 75, .bin .neq (.tmp 74) (.const (.int .i64 0)), none⟩]) (.cond (.tmp 75) (.seq (.region [⟨some 76, .mv (.tmp 13), none⟩, ⟨none, .store 1
    (.tmp 2) (.const (.slice none 0 0)), none⟩, ⟨none, .store 1 (.tmp 3) (.tmp 76), none⟩]) .ret) .skip))) (.seq (.region [⟨some 77, .load false 1 (.tmp 4), none⟩, ⟨none, .store 1
    (.tmp 2) (.tmp 77), none⟩, ⟨none, .store 1 (.tmp 3) (.const (.int .i64 0)), none⟩]) .ret)))))))
theorem low33 : lowF Tryz.prog [68] Tryz.f33 = some (78, lc33.strip, [.cell 2 false 1, .cell 3 false 1]) := by kernel_rfl
theorem fn33 : FnOk Tryz.prog 33 78 lc33 [.cell 2 false 1, .cell 3 false 1] := ⟨Tryz.call33, [68], _, Tryz.func33, low33⟩
def lc34 : LCode :=
  (.seq (.region [⟨some 2, .alloc [(.int .i64 0), (.int .i64 0), (.int .i64 0), (.int .i64 0), (.slice none 0 0)], none⟩, ⟨some 3, .mv (.const (.int .i64 0)), none⟩]) (.seq (.seq
    (.region [⟨some 10, .mv (.tmp 0), none⟩, ⟨some 11, .lenS (.tmp 10), none⟩, ⟨some 12, .bin .gtr (.tmp 11) (.const (.int .i64 60000)), none⟩]) (.cond (.tmp 12) (.seq (.region
    [⟨some 13, .build [(.int .i64 0), (.int .i64 0), (.int .i64 0), (.int .i64 0), (.slice none 0 0)] [], none⟩, ⟨none, .store 5 (.tmp 2) (.tmp 13), none⟩, ⟨some 3, .mv (.const
    (.int .i64 8)), none⟩]) .ret) .skip)) (.seq (.region [⟨some 14, .mv (.tmp 0), none⟩, ⟨some 15, .call (.func 94) [(.tmp 14), (.const (.string ⟨#[47]⟩))], none⟩, ⟨some 4, .mv
    (.tmp 15), none⟩]) (.seq (.seq (.region [⟨some 16, .mv (.tmp 4), none⟩, ⟨some 17, .len (.tmp 16), none⟩, ⟨some 18, .bin .neq (.tmp 17) (.const (.int .i64 2)), none⟩]) (.cond
    (.tmp 18) (.seq (.region [⟨some 19, .build [(.int .i64 0), (.int .i64 0), (.int .i64 0), (.int .i64 0), (.slice none 0 0)] [], none⟩, ⟨none, .store 5 (.tmp 2) (.tmp 19), none⟩,
    ⟨some 3, .mv (.const (.int .i64 7)), none⟩]) .ret) .skip)) (.seq (.region [⟨some 21, .mv (.tmp 4), none⟩, ⟨some 22, .idx 1 (.tmp 21) (.const (.int .i64 0)), none⟩, ⟨some 23,
    .load false 1 (.tmp 22), none⟩, ⟨some 24, .call (.func 112) [(.tmp 23), (.const (.int .i64 9))], none⟩, ⟨some 20, .mv (.tmp 24), none⟩, ⟨some 25, .ext (.tmp 20) 0, none⟩, ⟨some
    26, .ext (.tmp 20) 1, none⟩, ⟨some 5, .mv (.tmp 25), none⟩, ⟨some 6, .mv (.tmp 26), none⟩]) (.seq (.seq (.region [⟨some 27, .mv (.tmp 6), none⟩, ⟨some 28, .un .not (.tmp 27),
    none⟩, ⟨some 29, .mv (.tmp 28), none⟩, ⟨some 30, .mv (.tmp 5), some (29, false)⟩, ⟨some 31, .len (.tmp 30), some (29, false)⟩, ⟨some 32, .bin .neq (.tmp 31) (.const (.int .i64
    4)), some (29, false)⟩, ⟨some 33, .pick (.tmp 29) (.const (.bool true)) (.tmp 32), none⟩]) (.cond (.tmp 33) (.seq (.region [⟨some 34, .build [(.int .i64 0), (.int .i64 0), (.int
    .i64 0), (.int .i64 0), (.slice none 0 0)] [], none⟩, ⟨none, .store 5 (.tmp 2) (.tmp 34), none⟩, ⟨some 3, .mv (.const (.int .i64 7)), none⟩]) .ret) .skip)) (.seq (.regionD
    [⟨some 35, .mv (.tmp 5), none⟩, ⟨some 36, .idx 1 (.tmp 35) (.const (.int .i64 0)), none⟩, ⟨some 37, .load false 1 (.tmp 36), none⟩, ⟨some 38, .mv (.tmp 5), none⟩, ⟨some 39, .idx
    1 (.tmp 38) (.const (.int .i64 1)), none⟩, ⟨some 40, .load false 1 (.tmp 39), none⟩, ⟨some 41, .mv (.tmp 5), none⟩, ⟨some 42, .idx 1 (.tmp 41) (.const (.int .i64 2)), none⟩,
    ⟨some 43, .load false 1 (.tmp 42), none⟩, ⟨some 44, .mv (.tmp 5), none⟩, ⟨some 45, .idx 1 (.tmp 44) (.const (.int .i64 3)), none⟩, ⟨some 46, .load false 1 (.tmp 45), none⟩,
    ⟨some 47, .build [(.int .i64 0), (.int .i64 0), (.int .i64 0), (.int .i64 0), (.slice none 0 0)] [(0, 1, (.tmp 37)), (1, 1, (.tmp 40)), (2, 1, (.tmp 43)), (3, 1, (.tmp 46))],
    none⟩, ⟨some 7, .alloc [(.int .i64 0), (.int .i64 0), (.int .i64 0), (.int .i64 0), (.slice none 0 0)], none⟩, ⟨none, .store 5 (.tmp 7) (.tmp 47), none⟩] [0, 1, 3, 0, 8, 24, 0,
    64, 192, 0, 512, 1536, 4095, 0, 16383] [0, 1, 2, 3, 4, 5, 6, 7, 8, 9, 10, 11, 12, 13, 14]) (.seq (.seq (.region [⟨some 48, .mv (.tmp 4), none⟩, ⟨some 49, .idx 1 (.tmp 48)
    (.const (.int .i64 1)), none⟩, ⟨some 50, .load false 1 (.tmp 49), none⟩, ⟨some 51, .eqS true (.tmp 50) (.const (.string ⟨#[]⟩)), none⟩]) (.cond (.tmp 51) (.seq (.region [⟨some
    53, .mv (.tmp 4), none⟩, ⟨some 54, .idx 1 (.tmp 53) (.const (.int .i64 1)), none⟩, ⟨some 55, .load false 1 (.tmp 54), none⟩, ⟨some 56, .call (.func 112) [(.tmp 55), (.const
    (.int .i64 9))], none⟩, ⟨some 52, .mv (.tmp 56), none⟩, ⟨some 57, .ext (.tmp 52) 0, none⟩, ⟨some 58, .ext (.tmp 52) 1, none⟩, ⟨some 8, .mv (.tmp 57), none⟩, ⟨some 9, .mv (.tmp
    58), none⟩]) (.seq (.seq (.region [⟨some 59, .mv (.tmp 9), none⟩, ⟨some 60, .un .not (.tmp 59), none⟩]) (.cond (.tmp 60) (.seq (.region [⟨some 61, .build [(.int .i64 0), (.int
    .i64 0), (.int .i64 0), (.int .i64 0), (.slice none 0 0)] [], none⟩, ⟨none, .store 5 (.tmp 2) (.tmp 61), none⟩, ⟨some 3, .mv (.const (.int .i64 7)), none⟩]) .ret) .skip))
    (.region [⟨some 62, .mv (.tmp 8), none⟩, ⟨some 63, .fld 4 (.tmp 7), none⟩, ⟨none, .store 1 (.tmp 63) (.tmp 62), none⟩]))) .skip)) (.seq (.region [⟨some 64, .load true 5 (.tmp
    7), none⟩, ⟨none, .store 5 (.tmp 2) (.tmp 64), none⟩, ⟨some 3, .mv (.const (.int .i64 0)), none⟩]) .ret)))))))))
theorem low34 : lowF Tryz.prog [] Tryz.f34 = some (65, lc34.strip, [.cell 2 true 5, .tmp 3]) := by kernel_rfl
theorem fn34 : FnOk Tryz.prog 34 65 lc34 [.cell 2 true 5, .tmp 3] := ⟨Tryz.call34, [], _, Tryz.func34, low34⟩
def lc35 : LCode :=
  (.seq (.region [⟨some 2, .mv (.const (.slice none 0 0)), none⟩, ⟨some 3, .mv (.const (.int .i64 0)), none⟩]) (.seq (.seq (.region [⟨some 6, .mv (.tmp 0), none⟩, ⟨some 7, .lenS
    (.tmp 6), none⟩, ⟨some 8, .bin .gtr (.tmp 7) (.const (.int .i64 60000)), none⟩]) (.cond (.tmp 8) (.seq (.region [⟨some 2, .mv (.const (.slice none 0 0)), none⟩, ⟨some 3, .mv
    (.const (.int .i64 8)), none⟩]) .ret) .skip)) (.seq (.seq (.region [⟨some 9, .mv (.tmp 0), none⟩, ⟨some 10, .eqS false (.tmp 9) (.const (.string ⟨#[]⟩)), none⟩]) (.cond (.tmp
    10) (.seq (.region [⟨some 2, .mv (.const (.slice none 0 0)), none⟩, ⟨some 3, .mv (.const (.int .i64 0)), none⟩]) .ret) .skip)) (.seq (.region [⟨some 12, .mv (.tmp 0), none⟩,
    ⟨some 13, .call (.func 112) [(.tmp 12), (.const (.int .i64 2))], none⟩, ⟨some 11, .mv (.tmp 13), none⟩, ⟨some 14, .ext (.tmp 11) 0, none⟩, ⟨some 15, .ext (.tmp 11) 1, none⟩,
    ⟨some 4, .mv (.tmp 14), none⟩, ⟨some 5, .mv (.tmp 15), none⟩]) (.seq (.seq (.region [⟨some 16, .mv (.tmp 5), none⟩, ⟨some 17, .un .not (.tmp 16), none⟩]) (.cond (.tmp 17) (.seq
    (.region [⟨some 2, .mv (.const (.slice none 0 0)), none⟩, ⟨some 3, .mv (.const (.int .i64 7)), none⟩]) .ret) .skip)) (.seq (.region [⟨some 18, .mv (.tmp 4), none⟩, ⟨some 2, .mv
    (.tmp 18), none⟩, ⟨some 3, .mv (.const (.int .i64 0)), none⟩]) .ret))))))
theorem low35 : lowF Tryz.prog [] Tryz.f35 = some (19, lc35.strip, [.tmp 2, .tmp 3]) := by kernel_rfl
theorem fn35 : FnOk Tryz.prog 35 19 lc35 [.tmp 2, .tmp 3] := ⟨Tryz.call35, [], _, Tryz.func35, low35⟩
def lc36 : LCode :=
  (.seq (.region [⟨some 2, .mv (.const (.slice none 0 0)), none⟩, ⟨some 3, .mv (.const (.int .i64 0)), none⟩]) (.seq (.seq (.region [⟨some 12, .mv (.tmp 0), none⟩, ⟨some 13, .lenS
    (.tmp 12), none⟩, ⟨some 14, .bin .gtr (.tmp 13) (.const (.int .i64 60000)), none⟩]) (.cond (.tmp 14) (.seq (.region [⟨some 2, .mv (.const (.slice none 0 0)), none⟩, ⟨some 3, .mv
    (.const (.int .i64 8)), none⟩]) .ret) .skip)) (.seq (.seq (.region [⟨some 15, .mv (.tmp 0), none⟩, ⟨some 16, .eqS false (.tmp 15) (.const (.string ⟨#[]⟩)), none⟩]) (.cond (.tmp
    16) (.seq (.region [⟨some 2, .mv (.const (.slice none 0 0)), none⟩, ⟨some 3, .mv (.const (.int .i64 0)), none⟩]) .ret) .skip)) (.seq (.region [⟨some 17, .mv (.tmp 0), none⟩,
    ⟨some 18, .call (.func 101) [(.tmp 17), (.const (.int .u8 59))], none⟩, ⟨some 4, .mv (.tmp 18), none⟩]) (.seq (.region [⟨some 5, .mv (.const (.slice none 0 0)), none⟩]) (.seq
    (.seq (.region [⟨some 6, .mv (.const (.int .i64 0)), none⟩]) (.block 0 (.loop (.seq (.seq (.region [⟨some 19, .mv (.tmp 6), none⟩, ⟨some 20, .mv (.tmp 4), none⟩, ⟨some 21, .len
    (.tmp 20), none⟩, ⟨some 22, .bin .lss (.tmp 19) (.tmp 21), none⟩]) (.cond (.tmp 22) .skip (.exit 0))) (.seq (.block 1 (.seq (.region [⟨some 25, .mv (.tmp 4), none⟩, ⟨some 26,
    .mv (.tmp 6), none⟩, ⟨some 27, .idx 1 (.tmp 25) (.tmp 26), none⟩, ⟨some 28, .load false 1 (.tmp 27), none⟩, ⟨some 29, .call (.func 101) [(.tmp 28), (.const (.int .u8 32))],
    none⟩, ⟨some 7, .mv (.tmp 29), none⟩]) (.seq (.region [⟨some 31, .mv (.tmp 7), none⟩, ⟨some 32, .slc 1 (.tmp 31) (some (.const (.int .i64 1))) none, none⟩, ⟨some 33, .call
    (.func 114) [(.tmp 32), (.const (.int .i64 6))], none⟩, ⟨some 30, .mv (.tmp 33), none⟩, ⟨some 34, .ext (.tmp 30) 0, none⟩, ⟨some 35, .ext (.tmp 30) 1, none⟩, ⟨some 8, .mv (.tmp
    34), none⟩, ⟨some 9, .mv (.tmp 35), none⟩]) (.seq (.seq (.region [⟨some 36, .mv (.tmp 9), none⟩, ⟨some 37, .un .not (.tmp 36), none⟩, ⟨some 38, .mv (.tmp 37), none⟩, ⟨some 39,
    .mv (.tmp 8), some (38, false)⟩, ⟨some 40, .len (.tmp 39), some (38, false)⟩, ⟨some 41, .bin .lss (.tmp 40) (.const (.int .i64 7)), some (38, false)⟩, ⟨some 42, .pick (.tmp 38)
    (.const (.bool true)) (.tmp 41), none⟩, ⟨some 43, .mv (.tmp 42), none⟩, ⟨some 44, .mv (.tmp 7), some (43, false)⟩, ⟨some 45, .idx 1 (.tmp 44) (.const (.int .i64 0)), some (43,
    false)⟩, ⟨some 46, .load false 1 (.tmp 45), some (43, false)⟩, ⟨some 47, .eqS false (.tmp 46) (.const (.string ⟨#[]⟩)), some (43, false)⟩, ⟨some 48, .pick (.tmp 43) (.const
    (.bool true)) (.tmp 47), none⟩]) (.cond (.tmp 48) (.seq (.region [⟨some 2, .mv (.const (.slice none 0 0)), none⟩, ⟨some 3, .mv (.const (.int .i64 7)), none⟩]) .ret) .skip))
    (.regionD [⟨some 49, .mv (.tmp 5), none⟩, ⟨some 50, .mv (.tmp 7), none⟩, ⟨some 51, .idx 1 (.tmp 50) (.const (.int .i64 0)), none⟩, ⟨some 52, .load false 1 (.tmp 51), none⟩,
    ⟨some 53, .mv (.tmp 8), none⟩, ⟨some 54, .idx 1 (.tmp 53) (.const (.int .i64 0)), none⟩, ⟨some 55, .load false 1 (.tmp 54), none⟩, ⟨some 56, .mv (.tmp 8), none⟩, ⟨some 57, .idx
    1 (.tmp 56) (.const (.int .i64 1)), none⟩, ⟨some 58, .load false 1 (.tmp 57), none⟩, ⟨some 59, .mv (.tmp 8), none⟩, ⟨some 60, .idx 1 (.tmp 59) (.const (.int .i64 2)), none⟩,
    ⟨some 61, .load false 1 (.tmp 60), none⟩, ⟨some 62, .mv (.tmp 8), none⟩, ⟨some 63, .idx 1 (.tmp 62) (.const (.int .i64 3)), none⟩, ⟨some 64, .load false 1 (.tmp 63), none⟩,
    ⟨some 65, .mv (.tmp 8), none⟩, ⟨some 66, .idx 1 (.tmp 65) (.const (.int .i64 4)), none⟩, ⟨some 67, .load false 1 (.tmp 66), none⟩, ⟨some 68, .mv (.tmp 8), none⟩, ⟨some 69, .idx
    1 (.tmp 68) (.const (.int .i64 5)), none⟩, ⟨some 70, .load false 1 (.tmp 69), none⟩, ⟨some 71, .mv (.tmp 8), none⟩, ⟨some 72, .idx 1 (.tmp 71) (.const (.int .i64 6)), none⟩,
    ⟨some 73, .load false 1 (.tmp 72), none⟩, ⟨some 74, .build [(.int .i64 0), (.int .i64 0)] [(0, 1, (.tmp 70)), (1, 1, (.tmp 73))], none⟩, ⟨some 75, .mv (.tmp 8), none⟩, ⟨some 76,
    .slc 1 (.tmp 75) (some (.const (.int .i64 7))) none, none⟩, ⟨some 77, .call (.func 32) [(.tmp 76)], none⟩, ⟨some 78, .build [(.string ⟨#[]⟩), (.int .i64 0), (.int .i64 0), (.int
    .i64 0), (.int .i64 0), (.int .i64 0), (.int .i64 0), (.int .i64 0), (.slice none 0 0)] [(0, 1, (.tmp 52)), (1, 1, (.tmp 55)), (2, 1, (.tmp 58)), (3, 1, (.tmp 61)), (4, 1, (.tmp
    64)), (5, 1, (.tmp 67)), (6, 2, (.tmp 74)), (8, 1, (.tmp 77))], none⟩, ⟨some 79, .lit false 182 9 [(.tmp 78)], none⟩, ⟨some 80, .append true 182 9 96 (.tmp 49) (.tmp 79), none⟩,
    ⟨some 5, .mv (.tmp 80), none⟩] [0, 0, 2, 6, 0, 16, 48, 0, 128, 384, 0, 1024, 3072, 0, 8192, 24576, 0, 65536, 196608, 0, 524288, 1572864, 0, 4194304, 12582912, 33030144, 0,
    67108864, 201326592, 536870910, 1073741822, 2147483647, 4294967295] [0, 1, 2, 3, 4, 5, 6, 7, 8, 9, 10, 11, 12, 13, 14, 15, 16, 17, 18, 19, 20, 21, 22, 23, 24, 25, 26, 27, 28,
    29, 30, 31, 32]))))) (.region [⟨some 23, .mv (.tmp 6), none⟩, ⟨some 24, .bin .add (.tmp 23) (.const (.int .i64 1)), none⟩, ⟨some 6, .mv (.tmp 24), none⟩])))))) (.seq (.seq
    (.region [⟨some 82, .mv (.tmp 5), none⟩, ⟨some 83, .call (.func 45) [(.tmp 82)], none⟩, ⟨some 81, .mv (.tmp 83), none⟩, ⟨some 84, .ext (.tmp 81) 0, none⟩, ⟨some 85, .ext (.tmp
    81) 1, none⟩, ⟨some 10, .mv (.tmp 84), none⟩, ⟨some 11, .mv (.tmp 85), none⟩]) (.seq (.region [⟨some 86, .mv (.tmp 11), none⟩, ⟨some 87, .bin .neq (.tmp 86) (.const (.int .i64
    0)), none⟩]) (.cond (.tmp 87) (.seq (.region [⟨some 88, .mv (.tmp 11), none⟩, ⟨some 2, .mv (.const (.slice none 0 0)), none⟩, ⟨some 3, .mv (.tmp 88), none⟩]) .ret) .skip)))
    (.seq (.region [⟨some 89, .mv (.tmp 5), none⟩, ⟨some 2, .mv (.tmp 89), none⟩, ⟨some 3, .mv (.const (.int .i64 0)), none⟩]) .ret))))))))
theorem low36 : lowF Tryz.prog [80] Tryz.f36 = some (90, lc36.strip, [.tmp 2, .tmp 3]) := by kernel_rfl
theorem fn36 : FnOk Tryz.prog 36 90 lc36 [.tmp 2, .tmp 3] := ⟨Tryz.call36, [80], _, Tryz.func36, low36⟩
def lc37 : LCode :=
  (.seq (.region [⟨some 2, .alloc [(.int .i64 0), (.int .i64 0), (.int .i64 0), (.int .i64 0), (.slice none 0 0)], none⟩, ⟨some 3, .mv (.const (.int .i64 0)), none⟩]) (.seq (.region
    [⟨some 11, .build [(.int .i64 0), (.int .i64 0), (.int .i64 0), (.int .i64 0), (.slice none 0 0)] [], none⟩, ⟨some 4, .alloc [(.int .i64 0), (.int .i64 0), (.int .i64 0), (.int
    .i64 0), (.slice none 0 0)], none⟩, ⟨none, .store 5 (.tmp 4) (.tmp 11), none⟩]) (.seq (.seq (.region [⟨some 12, .mv (.tmp 0), none⟩, ⟨some 13, .lenS (.tmp 12), none⟩, ⟨some 14,
    .bin .gtr (.tmp 13) (.const (.int .i64 60000)), none⟩]) (.cond (.tmp 14) (.seq (.region [⟨some 15, .load true 5 (.tmp 4), none⟩, ⟨none, .store 5 (.tmp 2) (.tmp 15), none⟩, ⟨some
    3, .mv (.const (.int .i64 8)), none⟩]) .ret) .skip)) (.seq (.region [⟨some 16, .mv (.tmp 0), none⟩, ⟨some 17, .call (.func 101) [(.tmp 16), (.const (.int .u8 47))], none⟩, ⟨some
    5, .mv (.tmp 17), none⟩]) (.seq (.seq (.region [⟨some 18, .mv (.tmp 5), none⟩, ⟨some 19, .len (.tmp 18), none⟩, ⟨some 20, .bin .neq (.tmp 19) (.const (.int .i64 2)), none⟩])
    (.cond (.tmp 20) (.seq (.region [⟨some 21, .load true 5 (.tmp 4), none⟩, ⟨none, .store 5 (.tmp 2) (.tmp 21), none⟩, ⟨some 3, .mv (.const (.int .i64 7)), none⟩]) .ret) .skip))
    (.seq (.region [⟨some 23, .mv (.tmp 5), none⟩, ⟨some 24, .idx 1 (.tmp 23) (.const (.int .i64 0)), none⟩, ⟨some 25, .load false 1 (.tmp 24), none⟩, ⟨some 26, .call (.func 101)
    [(.tmp 25), (.const (.int .u8 32))], none⟩, ⟨some 27, .call (.func 114) [(.tmp 26), (.const (.int .i64 9))], none⟩, ⟨some 22, .mv (.tmp 27), none⟩, ⟨some 28, .ext (.tmp 22) 0,
    none⟩, ⟨some 29, .ext (.tmp 22) 1, none⟩, ⟨some 6, .mv (.tmp 28), none⟩, ⟨some 7, .mv (.tmp 29), none⟩]) (.seq (.seq (.region [⟨some 30, .mv (.tmp 7), none⟩, ⟨some 31, .un .not
    (.tmp 30), none⟩, ⟨some 32, .mv (.tmp 31), none⟩, ⟨some 33, .mv (.tmp 6), some (32, false)⟩, ⟨some 34, .len (.tmp 33), some (32, false)⟩, ⟨some 35, .bin .neq (.tmp 34) (.const
    (.int .i64 4)), some (32, false)⟩, ⟨some 36, .pick (.tmp 32) (.const (.bool true)) (.tmp 35), none⟩]) (.cond (.tmp 36) (.seq (.region [⟨some 37, .load true 5 (.tmp 4), none⟩,
    ⟨none, .store 5 (.tmp 2) (.tmp 37), none⟩, ⟨some 3, .mv (.const (.int .i64 7)), none⟩]) .ret) .skip)) (.seq (.regionD [⟨some 38, .mv (.tmp 6), none⟩, ⟨some 39, .idx 1 (.tmp 38)
    (.const (.int .i64 0)), none⟩, ⟨some 40, .load false 1 (.tmp 39), none⟩, ⟨some 41, .mv (.tmp 6), none⟩, ⟨some 42, .idx 1 (.tmp 41) (.const (.int .i64 1)), none⟩, ⟨some 43, .load
    false 1 (.tmp 42), none⟩, ⟨some 44, .mv (.tmp 6), none⟩, ⟨some 45, .idx 1 (.tmp 44) (.const (.int .i64 2)), none⟩, ⟨some 46, .load false 1 (.tmp 45), none⟩, ⟨some 47, .mv (.tmp
    6), none⟩, ⟨some 48, .idx 1 (.tmp 47) (.const (.int .i64 3)), none⟩, ⟨some 49, .load false 1 (.tmp 48), none⟩, ⟨some 50, .build [(.int .i64 0), (.int .i64 0), (.int .i64 0),
    (.int .i64 0), (.slice none 0 0)] [(0, 1, (.tmp 40)), (1, 1, (.tmp 43)), (2, 1, (.tmp 46)), (3, 1, (.tmp 49))], none⟩, ⟨some 8, .alloc [(.int .i64 0), (.int .i64 0), (.int .i64
    0), (.int .i64 0), (.slice none 0 0)], none⟩, ⟨none, .store 5 (.tmp 8) (.tmp 50), none⟩] [0, 1, 3, 0, 8, 24, 0, 64, 192, 0, 512, 1536, 4095, 0, 16383] [0, 1, 2, 3, 4, 5, 6, 7,
    8, 9, 10, 11, 12, 13, 14]) (.seq (.seq (.region [⟨some 51, .mv (.tmp 5), none⟩, ⟨some 52, .idx 1 (.tmp 51) (.const (.int .i64 1)), none⟩, ⟨some 53, .load false 1 (.tmp 52),
    none⟩, ⟨some 54, .eqS true (.tmp 53) (.const (.string ⟨#[]⟩)), none⟩]) (.cond (.tmp 54) (.seq (.region [⟨some 56, .mv (.tmp 5), none⟩, ⟨some 57, .idx 1 (.tmp 56) (.const (.int
    .i64 1)), none⟩, ⟨some 58, .load false 1 (.tmp 57), none⟩, ⟨some 59, .call (.func 101) [(.tmp 58), (.const (.int .u8 32))], none⟩, ⟨some 60, .call (.func 114) [(.tmp 59),
    (.const (.int .i64 9))], none⟩, ⟨some 55, .mv (.tmp 60), none⟩, ⟨some 61, .ext (.tmp 55) 0, none⟩, ⟨some 62, .ext (.tmp 55) 1, none⟩, ⟨some 9, .mv (.tmp 61), none⟩, ⟨some 10,
    .mv (.tmp 62), none⟩]) (.seq (.seq (.region [⟨some 63, .mv (.tmp 10), none⟩, ⟨some 64, .un .not (.tmp 63), none⟩]) (.cond (.tmp 64) (.seq (.region [⟨some 65, .load true 5 (.tmp
    4), none⟩, ⟨none, .store 5 (.tmp 2) (.tmp 65), none⟩, ⟨some 3, .mv (.const (.int .i64 7)), none⟩]) .ret) .skip)) (.region [⟨some 66, .mv (.tmp 9), none⟩, ⟨some 67, .fld 4 (.tmp
    8), none⟩, ⟨none, .store 1 (.tmp 67) (.tmp 66), none⟩]))) .skip)) (.seq (.region [⟨some 68, .load true 5 (.tmp 8), none⟩, ⟨none, .store 5 (.tmp 2) (.tmp 68), none⟩, ⟨some 3, .mv
    (.const (.int .i64 0)), none⟩]) .ret))))))))))
theorem low37 : lowF Tryz.prog [] Tryz.f37 = some (69, lc37.strip, [.cell 2 true 5, .tmp 3]) := by kernel_rfl
theorem fn37 : FnOk Tryz.prog 37 69 lc37 [.cell 2 true 5, .tmp 3] := ⟨Tryz.call37, [], _, Tryz.func37, low37⟩
def lc38 : LCode :=
  (.seq (.region [⟨some 2, .mv (.const (.slice none 0 0)), none⟩, ⟨some 3, .mv (.const (.int .i64 0)), none⟩]) (.seq (.seq (.region [⟨some 6, .mv (.tmp 0), none⟩, ⟨some 7, .lenS
    (.tmp 6), none⟩, ⟨some 8, .bin .gtr (.tmp 7) (.const (.int .i64 60000)), none⟩]) (.cond (.tmp 8) (.seq (.region [⟨some 2, .mv (.const (.slice none 0 0)), none⟩, ⟨some 3, .mv
    (.const (.int .i64 8)), none⟩]) .ret) .skip)) (.seq (.seq (.region [⟨some 9, .mv (.tmp 0), none⟩, ⟨some 10, .eqS false (.tmp 9) (.const (.string ⟨#[]⟩)), none⟩]) (.cond (.tmp
    10) (.seq (.region [⟨some 2, .mv (.const (.slice none 0 0)), none⟩, ⟨some 3, .mv (.const (.int .i64 0)), none⟩]) .ret) .skip)) (.seq (.region [⟨some 12, .mv (.tmp 0), none⟩,
    ⟨some 13, .call (.func 101) [(.tmp 12), (.const (.int .u8 32))], none⟩, ⟨some 14, .call (.func 114) [(.tmp 13), (.const (.int .i64 2))], none⟩, ⟨some 11, .mv (.tmp 14), none⟩,
    ⟨some 15, .ext (.tmp 11) 0, none⟩, ⟨some 16, .ext (.tmp 11) 1, none⟩, ⟨some 4, .mv (.tmp 15), none⟩, ⟨some 5, .mv (.tmp 16), none⟩]) (.seq (.seq (.region [⟨some 17, .mv (.tmp
    5), none⟩, ⟨some 18, .un .not (.tmp 17), none⟩]) (.cond (.tmp 18) (.seq (.region [⟨some 2, .mv (.const (.slice none 0 0)), none⟩, ⟨some 3, .mv (.const (.int .i64 7)), none⟩])
    .ret) .skip)) (.seq (.region [⟨some 19, .mv (.tmp 4), none⟩, ⟨some 2, .mv (.tmp 19), none⟩, ⟨some 3, .mv (.const (.int .i64 0)), none⟩]) .ret))))))
theorem low38 : lowF Tryz.prog [] Tryz.f38 = some (20, lc38.strip, [.tmp 2, .tmp 3]) := by kernel_rfl
theorem fn38 : FnOk Tryz.prog 38 20 lc38 [.tmp 2, .tmp 3] := ⟨Tryz.call38, [], _, Tryz.func38, low38⟩
def lc40 : LCode :=
  (.seq (.region [⟨some 1, .boxS (.tmp 0), none⟩, ⟨some 2, .mv (.const (.string ⟨#[]⟩)), none⟩]) (.seq (.regionD [⟨some 3, .fld 0 (.tmp 1), none⟩, ⟨some 4, .load false 1 (.tmp 3),
    none⟩, ⟨some 5, .fld 1 (.tmp 1), none⟩, ⟨some 6, .load false 1 (.tmp 5), none⟩, ⟨some 7, .fld 2 (.tmp 1), none⟩, ⟨some 8, .load false 1 (.tmp 7), none⟩, ⟨some 9, .fld 3 (.tmp
    1), none⟩, ⟨some 10, .load false 1 (.tmp 9), none⟩, ⟨some 11, .lit false 3 1 [(.tmp 4), (.tmp 6), (.tmp 8), (.tmp 10)], none⟩, ⟨some 12, .call (.func 116) [(.const (.string
    ⟨#[]⟩)), (.tmp 11)], none⟩, ⟨some 13, .catS (.tmp 12) (.const (.string ⟨#[47]⟩)), none⟩, ⟨some 14, .fld 4 (.tmp 1), none⟩, ⟨some 15, .load false 1 (.tmp 14), none⟩, ⟨some 16,
    .call (.func 116) [(.const (.string ⟨#[]⟩)), (.tmp 15)], none⟩, ⟨some 17, .catS (.tmp 13) (.tmp 16), none⟩, ⟨some 2, .mv (.tmp 17), none⟩] [0, 1, 0, 4, 0, 16, 0, 64, 255, 511,
    1023, 0, 2048, 7167, 16383, 32767] [0, 1, 2, 3, 4, 5, 6, 7, 8, 9, 10, 11, 12, 13, 14, 15]) .ret))
theorem low40 : lowF Tryz.prog [1] Tryz.f40 = some (18, lc40.strip, [.tmp 2]) := by kernel_rfl
theorem fn40 : FnOk Tryz.prog 40 18 lc40 [.tmp 2] := ⟨Tryz.call40, [1], _, Tryz.func40, low40⟩
def lc41 : LCode :=
  (.seq (.region [⟨some 2, .mv (.const (.string ⟨#[]⟩)), none⟩]) (.seq (.region [⟨some 3, .mv (.tmp 0), none⟩, ⟨some 4, .call (.func 116) [(.const (.string ⟨#[]⟩)), (.tmp 3)],
    none⟩, ⟨some 2, .mv (.tmp 4), none⟩]) .ret))
theorem low41 : lowF Tryz.prog [] Tryz.f41 = some (5, lc41.strip, [.tmp 2]) := by kernel_rfl
theorem fn41 : FnOk Tryz.prog 41 5 lc41 [.tmp 2] := ⟨Tryz.call41, [], _, Tryz.func41, low41⟩
def lc42 : LCode :=
  (.seq (.region [⟨some 4, .mv (.const (.bool false)), none⟩]) (.seq (.seq (.region [⟨some 8, .mv (.tmp 0), none⟩, ⟨some 9, .len (.tmp 8), none⟩, ⟨some 10, .mv (.tmp 1), none⟩,
    ⟨some 11, .len (.tmp 10), none⟩, ⟨some 12, .bin .neq (.tmp 9) (.tmp 11), none⟩]) (.cond (.tmp 12) (.seq (.region [⟨some 4, .mv (.const (.bool false)), none⟩]) .ret) .skip))
    (.seq (.seq (.region [⟨some 5, .mv (.const (.int .i64 0)), none⟩]) (.block 0 (.loop (.seq (.seq (.region [⟨some 13, .mv (.tmp 5), none⟩, ⟨some 14, .mv (.tmp 0), none⟩, ⟨some 15,
    .len (.tmp 14), none⟩, ⟨some 16, .bin .lss (.tmp 13) (.tmp 15), none⟩]) (.cond (.tmp 16) .skip (.exit 0))) (.seq (.block 1 (.seq (.regionD [⟨some 19, .mv (.tmp 0), none⟩, ⟨some
    20, .mv (.tmp 5), none⟩, ⟨some 21, .idx 9 (.tmp 19) (.tmp 20), none⟩, ⟨some 22, .load true 9 (.tmp 21), none⟩, ⟨some 23, .mv (.tmp 1), none⟩, ⟨some 24, .mv (.tmp 5), none⟩,
    ⟨some 25, .idx 9 (.tmp 23) (.tmp 24), none⟩, ⟨some 26, .load true 9 (.tmp 25), none⟩, ⟨some 6, .alloc [(.string ⟨#[]⟩), (.int .i64 0), (.int .i64 0), (.int .i64 0), (.int .i64
    0), (.int .i64 0), (.int .i64 0), (.int .i64 0), (.slice none 0 0)], none⟩, ⟨some 7, .alloc [(.string ⟨#[]⟩), (.int .i64 0), (.int .i64 0), (.int .i64 0), (.int .i64 0), (.int
    .i64 0), (.int .i64 0), (.int .i64 0), (.slice none 0 0)], none⟩, ⟨none, .store 9 (.tmp 6) (.tmp 22), none⟩, ⟨none, .store 9 (.tmp 7) (.tmp 26), none⟩] [0, 0, 3, 7, 0, 0, 48,
    112, 0, 0, 783, 2047] [0, 1, 2, 3, 4, 5, 6, 7, 8, 9, 10, 11]) (.seq (.region [⟨some 27, .fld 0 (.tmp 6), none⟩, ⟨some 28, .load false 1 (.tmp 27), none⟩, ⟨some 29, .fld 0 (.tmp
    7), none⟩, ⟨some 30, .load false 1 (.tmp 29), none⟩, ⟨some 31, .eqS true (.tmp 28) (.tmp 30), none⟩, ⟨some 32, .mv (.tmp 31), none⟩, ⟨some 33, .fld 1 (.tmp 6), some (32,
    false)⟩, ⟨some 34, .load false 1 (.tmp 33), some (32, false)⟩, ⟨some 35, .fld 1 (.tmp 7), some (32, false)⟩, ⟨some 36, .load false 1 (.tmp 35), some (32, false)⟩, ⟨some 37, .bin
    .neq (.tmp 34) (.tmp 36), some (32, false)⟩, ⟨some 38, .pick (.tmp 32) (.const (.bool true)) (.tmp 37), none⟩, ⟨some 39, .mv (.tmp 38), none⟩, ⟨some 40, .fld 2 (.tmp 6), some
    (39, false)⟩, ⟨some 41, .load false 1 (.tmp 40), some (39, false)⟩, ⟨some 42, .fld 2 (.tmp 7), some (39, false)⟩, ⟨some 43, .load false 1 (.tmp 42), some (39, false)⟩, ⟨some 44,
    .bin .neq (.tmp 41) (.tmp 43), some (39, false)⟩, ⟨some 45, .pick (.tmp 39) (.const (.bool true)) (.tmp 44), none⟩, ⟨some 46, .mv (.tmp 45), none⟩, ⟨some 47, .fld 3 (.tmp 6),
    some (46, false)⟩, ⟨some 48, .load false 1 (.tmp 47), some (46, false)⟩, ⟨some 49, .fld 3 (.tmp 7), some (46, false)⟩, ⟨some 50, .load false 1 (.tmp 49), some (46, false)⟩,
    ⟨some 51, .bin .neq (.tmp 48) (.tmp 50), some (46, false)⟩, ⟨some 52, .pick (.tmp 46) (.const (.bool true)) (.tmp 51), none⟩, ⟨some 53, .mv (.tmp 52), none⟩, ⟨some 54, .fld 4
    (.tmp 6), some (53, false)⟩, ⟨some 55, .load false 1 (.tmp 54), some (53, false)⟩, ⟨some 56, .fld 4 (.tmp 7), some (53, false)⟩, ⟨some 57, .load false 1 (.tmp 56), some (53,
    false)⟩, ⟨some 58, .bin .neq (.tmp 55) (.tmp 57), some (53, false)⟩, ⟨some 59, .pick (.tmp 53) (.const (.bool true)) (.tmp 58), none⟩, ⟨some 60, .mv (.tmp 59), none⟩, ⟨some 61,
    .fld 5 (.tmp 6), some (60, false)⟩, ⟨some 62, .load false 1 (.tmp 61), some (60, false)⟩, ⟨some 63, .fld 5 (.tmp 7), some (60, false)⟩, ⟨some 64, .load false 1 (.tmp 63), some
    (60, false)⟩, ⟨some 65, .bin .neq (.tmp 62) (.tmp 64), some (60, false)⟩, ⟨some 66, .pick (.tmp 60) (.const (.bool true)) (.tmp 65), none⟩, ⟨some 67, .mv (.tmp 66), none⟩, ⟨some
    68, .fld 6 (.tmp 6), some (67, false)⟩, ⟨some 69, .load true 2 (.tmp 68), some (67, false)⟩, ⟨some 70, .fld 6 (.tmp 7), some (67, false)⟩, ⟨some 71, .load true 2 (.tmp 70), some
    (67, false)⟩, ⟨some 72, .eqA true [false, false] (.tmp 69) (.tmp 71), some (67, false)⟩, ⟨some 73, .pick (.tmp 67) (.const (.bool true)) (.tmp 72), none⟩, ⟨some 74, .mv (.tmp
    73), none⟩, ⟨some 75, .fld 8 (.tmp 6), some (74, false)⟩, ⟨some 76, .load false 1 (.tmp 75), some (74, false)⟩, ⟨some 77, .fld 8 (.tmp 7), some (74, false)⟩, ⟨some 78, .load
    false 1 (.tmp 77), some (74, false)⟩, ⟨some 79, .call (.func 44) [(.tmp 76), (.tmp 78)], some (74, false)⟩, ⟨some 80, .un .not (.tmp 79), some (74, false)⟩, ⟨some 81, .pick
    (.tmp 74) (.const (.bool true)) (.tmp 80), none⟩]) (.cond (.tmp 81) (.seq (.region [⟨some 4, .mv (.const (.bool false)), none⟩]) .ret) .skip)))) (.region [⟨some 17, .mv (.tmp
    5), none⟩, ⟨some 18, .bin .add (.tmp 17) (.const (.int .i64 1)), none⟩, ⟨some 5, .mv (.tmp 18), none⟩])))))) (.seq (.region [⟨some 4, .mv (.const (.bool true)), none⟩]) .ret))))
theorem low42 : lowF Tryz.prog [] Tryz.f42 = some (82, lc42.strip, [.tmp 4]) := by kernel_rfl
theorem fn42 : FnOk Tryz.prog 42 82 lc42 [.tmp 4] := ⟨Tryz.call42, [], _, Tryz.func42, low42⟩
def lc43 : LCode :=
  (.seq (.region [⟨some 2, .boxS (.tmp 0), none⟩, ⟨some 3, .boxS (.tmp 1), none⟩, ⟨some 4, .mv (.const (.bool false)), none⟩]) (.seq (.region [⟨some 5, .fld 0 (.tmp 2), none⟩, ⟨some
    6, .load false 1 (.tmp 5), none⟩, ⟨some 7, .fld 0 (.tmp 3), none⟩, ⟨some 8, .load false 1 (.tmp 7), none⟩, ⟨some 9, .bin .eql (.tmp 6) (.tmp 8), none⟩, ⟨some 10, .mv (.tmp 9),
    none⟩, ⟨some 11, .fld 1 (.tmp 2), some (10, true)⟩, ⟨some 12, .load false 1 (.tmp 11), some (10, true)⟩, ⟨some 13, .fld 1 (.tmp 3), some (10, true)⟩, ⟨some 14, .load false 1
    (.tmp 13), some (10, true)⟩, ⟨some 15, .bin .eql (.tmp 12) (.tmp 14), some (10, true)⟩, ⟨some 16, .pick (.tmp 10) (.tmp 15) (.const (.bool false)), none⟩, ⟨some 17, .mv (.tmp
    16), none⟩, ⟨some 18, .fld 2 (.tmp 2), some (17, true)⟩, ⟨some 19, .load false 1 (.tmp 18), some (17, true)⟩, ⟨some 20, .fld 2 (.tmp 3), some (17, true)⟩, ⟨some 21, .load false
    1 (.tmp 20), some (17, true)⟩, ⟨some 22, .bin .eql (.tmp 19) (.tmp 21), some (17, true)⟩, ⟨some 23, .pick (.tmp 17) (.tmp 22) (.const (.bool false)), none⟩, ⟨some 24, .mv (.tmp
    23), none⟩, ⟨some 25, .fld 3 (.tmp 2), some (24, true)⟩, ⟨some 26, .load false 1 (.tmp 25), some (24, true)⟩, ⟨some 27, .fld 3 (.tmp 3), some (24, true)⟩, ⟨some 28, .load false
    1 (.tmp 27), some (24, true)⟩, ⟨some 29, .bin .eql (.tmp 26) (.tmp 28), some (24, true)⟩, ⟨some 30, .pick (.tmp 24) (.tmp 29) (.const (.bool false)), none⟩, ⟨some 31, .mv (.tmp
    30), none⟩, ⟨some 32, .fld 4 (.tmp 2), some (31, true)⟩, ⟨some 33, .load false 1 (.tmp 32), some (31, true)⟩, ⟨some 34, .fld 4 (.tmp 3), some (31, true)⟩, ⟨some 35, .load false
    1 (.tmp 34), some (31, true)⟩, ⟨some 36, .call (.func 44) [(.tmp 33), (.tmp 35)], some (31, true)⟩, ⟨some 37, .pick (.tmp 31) (.tmp 36) (.const (.bool false)), none⟩, ⟨some 4,
    .mv (.tmp 37), none⟩]) .ret))
theorem low43 : lowF Tryz.prog [2, 3] Tryz.f43 = some (38, lc43.strip, [.tmp 4]) := by kernel_rfl
theorem fn43 : FnOk Tryz.prog 43 38 lc43 [.tmp 4] := ⟨Tryz.call43, [2, 3], _, Tryz.func43, low43⟩
def lc44 : LCode :=
  (.seq (.region [⟨some 4, .mv (.const (.bool false)), none⟩]) (.seq (.seq (.region [⟨some 6, .mv (.tmp 0), none⟩, ⟨some 7, .len (.tmp 6), none⟩, ⟨some 8, .mv (.tmp 1), none⟩, ⟨some
    9, .len (.tmp 8), none⟩, ⟨some 10, .bin .neq (.tmp 7) (.tmp 9), none⟩]) (.cond (.tmp 10) (.seq (.region [⟨some 4, .mv (.const (.bool false)), none⟩]) .ret) .skip)) (.seq (.seq
    (.region [⟨some 5, .mv (.const (.int .i64 0)), none⟩]) (.block 0 (.loop (.seq (.seq (.region [⟨some 11, .mv (.tmp 5), none⟩, ⟨some 12, .mv (.tmp 0), none⟩, ⟨some 13, .len (.tmp
    12), none⟩, ⟨some 14, .bin .lss (.tmp 11) (.tmp 13), none⟩]) (.cond (.tmp 14) .skip (.exit 0))) (.seq (.block 1 (.seq (.regionD [⟨some 17, .mv (.tmp 0), none⟩, ⟨some 18, .mv
    (.tmp 5), none⟩, ⟨some 19, .idx 1 (.tmp 17) (.tmp 18), none⟩, ⟨some 20, .load false 1 (.tmp 19), none⟩, ⟨some 21, .mv (.tmp 1), none⟩, ⟨some 22, .mv (.tmp 5), none⟩, ⟨some 23,
    .idx 1 (.tmp 21) (.tmp 22), none⟩, ⟨some 24, .load false 1 (.tmp 23), none⟩, ⟨some 25, .bin .neq (.tmp 20) (.tmp 24), none⟩] [0, 0, 3, 7, 0, 0, 48, 112, 255] [0, 1, 2, 3, 4, 5,
    6, 7, 8]) (.cond (.tmp 25) (.seq (.region [⟨some 4, .mv (.const (.bool false)), none⟩]) .ret) .skip))) (.region [⟨some 15, .mv (.tmp 5), none⟩, ⟨some 16, .bin .add (.tmp 15)
    (.const (.int .i64 1)), none⟩, ⟨some 5, .mv (.tmp 16), none⟩])))))) (.seq (.region [⟨some 4, .mv (.const (.bool true)), none⟩]) .ret))))
theorem low44 : lowF Tryz.prog [] Tryz.f44 = some (26, lc44.strip, [.tmp 4]) := by kernel_rfl
theorem fn44 : FnOk Tryz.prog 44 26 lc44 [.tmp 4] := ⟨Tryz.call44, [], _, Tryz.func44, low44⟩
def lc45 : LCode :=
  (.seq (.region [⟨some 2, .mv (.const (.int .i64 0)), none⟩, ⟨some 3, .mv (.const (.int .i64 0)), none⟩]) (.seq (.seq (.region [⟨some 8, .mv (.tmp 0), none⟩, ⟨some 9, .len (.tmp
    8), none⟩, ⟨some 10, .bin .gtr (.tmp 9) (.const (.int .i64 6)), none⟩]) (.cond (.tmp 10) (.seq (.region [⟨some 2, .mv (.const (.int .i64 0)), none⟩, ⟨some 3, .mv (.const (.int
    .i64 8)), none⟩]) .ret) .skip)) (.seq (.seq (.region [⟨some 4, .mv (.const (.int .i64 0)), none⟩]) (.block 0 (.loop (.seq (.seq (.region [⟨some 11, .mv (.tmp 4), none⟩, ⟨some
    12, .mv (.tmp 0), none⟩, ⟨some 13, .len (.tmp 12), none⟩, ⟨some 14, .bin .lss (.tmp 11) (.tmp 13), none⟩]) (.cond (.tmp 14) .skip (.exit 0))) (.seq (.block 1 (.seq (.region
    [⟨some 17, .mv (.tmp 0), none⟩, ⟨some 18, .mv (.tmp 4), none⟩, ⟨some 19, .idx 9 (.tmp 17) (.tmp 18), none⟩, ⟨some 20, .load true 9 (.tmp 19), none⟩, ⟨some 5, .alloc [(.string
    ⟨#[]⟩), (.int .i64 0), (.int .i64 0), (.int .i64 0), (.int .i64 0), (.int .i64 0), (.int .i64 0), (.int .i64 0), (.slice none 0 0)], none⟩, ⟨none, .store 9 (.tmp 5) (.tmp 20),
    none⟩]) (.seq (.seq (.region [⟨some 21, .fld 0 (.tmp 5), none⟩, ⟨some 22, .load false 1 (.tmp 21), none⟩, ⟨some 23, .call (.func 117) [(.tmp 22)], none⟩, ⟨some 24, .un .not
    (.tmp 23), none⟩]) (.cond (.tmp 24) (.seq (.region [⟨some 25, .mv (.tmp 4), none⟩, ⟨some 2, .mv (.tmp 25), none⟩, ⟨some 3, .mv (.const (.int .i64 4)), none⟩]) .ret) .skip))
    (.seq (.seq (.region [⟨some 6, .mv (.const (.int .i64 0)), none⟩]) (.block 2 (.loop (.seq (.seq (.region [⟨some 26, .mv (.tmp 6), none⟩, ⟨some 27, .mv (.tmp 4), none⟩, ⟨some 28,
    .bin .lss (.tmp 26) (.tmp 27), none⟩]) (.cond (.tmp 28) .skip (.exit 2))) (.seq (.block 3 (.seq (.regionD [⟨some 31, .mv (.tmp 0), none⟩, ⟨some 32, .mv (.tmp 6), none⟩, ⟨some
    33, .idx 9 (.tmp 31) (.tmp 32), none⟩, ⟨some 34, .fld 0 (.tmp 33), none⟩, ⟨some 35, .load false 1 (.tmp 34), none⟩, ⟨some 36, .fld 0 (.tmp 5), none⟩, ⟨some 37, .load false 1
    (.tmp 36), none⟩, ⟨some 38, .eqS false (.tmp 35) (.tmp 37), none⟩] [0, 0, 3, 7, 15, 0, 32, 127] [0, 1, 2, 3, 4, 5, 6, 7]) (.cond (.tmp 38) (.seq (.region [⟨some 39, .mv (.tmp
    4), none⟩, ⟨some 2, .mv (.tmp 39), none⟩, ⟨some 3, .mv (.const (.int .i64 5)), none⟩]) .ret) .skip))) (.region [⟨some 29, .mv (.tmp 6), none⟩, ⟨some 30, .bin .add (.tmp 29)
    (.const (.int .i64 1)), none⟩, ⟨some 6, .mv (.tmp 30), none⟩])))))) (.seq (.seq (.region [⟨some 40, .fld 1 (.tmp 5), none⟩, ⟨some 41, .load false 1 (.tmp 40), none⟩, ⟨some 42,
    .call (.func 46) [(.tmp 41), (.const (.int .i64 0)), (.const (.int .i64 4))], none⟩, ⟨some 43, .un .not (.tmp 42), none⟩, ⟨some 44, .mv (.tmp 43), none⟩, ⟨some 45, .fld 2 (.tmp
    5), some (44, false)⟩, ⟨some 46, .load false 1 (.tmp 45), some (44, false)⟩, ⟨some 47, .call (.func 118) [(.tmp 46)], some (44, false)⟩, ⟨some 48, .un .not (.tmp 47), some (44,
    false)⟩, ⟨some 49, .pick (.tmp 44) (.const (.bool true)) (.tmp 48), none⟩, ⟨some 50, .mv (.tmp 49), none⟩, ⟨some 51, .fld 3 (.tmp 5), some (50, false)⟩, ⟨some 52, .load false 1
    (.tmp 51), some (50, false)⟩, ⟨some 53, .call (.func 118) [(.tmp 52)], some (50, false)⟩, ⟨some 54, .un .not (.tmp 53), some (50, false)⟩, ⟨some 55, .pick (.tmp 50) (.const
    (.bool true)) (.tmp 54), none⟩, ⟨some 56, .mv (.tmp 55), none⟩, ⟨some 57, .fld 4 (.tmp 5), some (56, false)⟩, ⟨some 58, .load false 1 (.tmp 57), some (56, false)⟩, ⟨some 59,
    .call (.func 118) [(.tmp 58)], some (56, false)⟩, ⟨some 60, .un .not (.tmp 59), some (56, false)⟩, ⟨some 61, .pick (.tmp 56) (.const (.bool true)) (.tmp 60), none⟩, ⟨some 62,
    .mv (.tmp 61), none⟩, ⟨some 63, .fld 5 (.tmp 5), some (62, false)⟩, ⟨some 64, .load false 1 (.tmp 63), some (62, false)⟩, ⟨some 65, .call (.func 118) [(.tmp 64)], some (62,
    false)⟩, ⟨some 66, .un .not (.tmp 65), some (62, false)⟩, ⟨some 67, .pick (.tmp 62) (.const (.bool true)) (.tmp 66), none⟩, ⟨some 68, .mv (.tmp 67), none⟩, ⟨some 69, .fld 6
    (.tmp 5), some (68, false)⟩, ⟨some 70, .fld 0 (.tmp 69), some (68, false)⟩, ⟨some 71, .load false 1 (.tmp 70), some (68, false)⟩, ⟨some 72, .call (.func 119) [(.tmp 71)], some
    (68, false)⟩, ⟨some 73, .un .not (.tmp 72), some (68, false)⟩, ⟨some 74, .pick (.tmp 68) (.const (.bool true)) (.tmp 73), none⟩, ⟨some 75, .mv (.tmp 74), none⟩, ⟨some 76, .fld 6
    (.tmp 5), some (75, false)⟩, ⟨some 77, .fld 1 (.tmp 76), some (75, false)⟩, ⟨some 78, .load false 1 (.tmp 77), some (75, false)⟩, ⟨some 79, .call (.func 119) [(.tmp 78)], some
    (75, false)⟩, ⟨some 80, .un .not (.tmp 79), some (75, false)⟩, ⟨some 81, .pick (.tmp 75) (.const (.bool true)) (.tmp 80), none⟩]) (.cond (.tmp 81) (.seq (.region [⟨some 82, .mv
    (.tmp 4), none⟩, ⟨some 2, .mv (.tmp 82), none⟩, ⟨some 3, .mv (.const (.int .i64 2)), none⟩]) .ret) .skip)) (.seq (.seq (.region [⟨some 83, .fld 6 (.tmp 5), none⟩, ⟨some 84, .fld
    0 (.tmp 83), none⟩, ⟨some 85, .load false 1 (.tmp 84), none⟩, ⟨some 86, .fld 6 (.tmp 5), none⟩, ⟨some 87, .fld 1 (.tmp 86), none⟩, ⟨some 88, .load false 1 (.tmp 87), none⟩,
    ⟨some 89, .bin .gtr (.tmp 85) (.tmp 88), none⟩]) (.cond (.tmp 89) (.seq (.region [⟨some 90, .mv (.tmp 4), none⟩, ⟨some 2, .mv (.tmp 90), none⟩, ⟨some 3, .mv (.const (.int .i64
    9)), none⟩]) .ret) .skip)) (.seq (.region [⟨some 7, .mv (.const (.int .i64 0)), none⟩]) (.block 4 (.loop (.seq (.seq (.region [⟨some 91, .mv (.tmp 7), none⟩, ⟨some 92, .fld 8
    (.tmp 5), none⟩, ⟨some 93, .load false 1 (.tmp 92), none⟩, ⟨some 94, .len (.tmp 93), none⟩, ⟨some 95, .bin .lss (.tmp 91) (.tmp 94), none⟩]) (.cond (.tmp 95) .skip (.exit 4)))
    (.seq (.block 5 (.seq (.seq (.region [⟨some 98, .fld 8 (.tmp 5), none⟩, ⟨some 99, .load false 1 (.tmp 98), none⟩, ⟨some 100, .mv (.tmp 7), none⟩, ⟨some 101, .idx 1 (.tmp 99)
    (.tmp 100), none⟩, ⟨some 102, .load false 1 (.tmp 101), none⟩, ⟨some 103, .mv (.tmp 4), none⟩, ⟨some 104, .bin .sub (.tmp 103) (.const (.int .i64 1)), none⟩, ⟨some 105, .call
    (.func 46) [(.tmp 102), (.const (.int .i64 0)), (.tmp 104)], none⟩, ⟨some 106, .un .not (.tmp 105), none⟩]) (.cond (.tmp 106) (.seq (.region [⟨some 107, .mv (.tmp 4), none⟩,
    ⟨some 2, .mv (.tmp 107), none⟩, ⟨some 3, .mv (.const (.int .i64 6)), none⟩]) .ret) .skip)) (.seq (.regionD [⟨some 108, .mv (.tmp 7), none⟩, ⟨some 109, .bin .gtr (.tmp 108)
    (.const (.int .i64 0)), none⟩, ⟨some 110, .mv (.tmp 109), none⟩, ⟨some 111, .fld 8 (.tmp 5), some (110, true)⟩, ⟨some 112, .load false 1 (.tmp 111), some (110, true)⟩, ⟨some
    113, .mv (.tmp 7), some (110, true)⟩, ⟨some 114, .idx 1 (.tmp 112) (.tmp 113), some (110, true)⟩, ⟨some 115, .load false 1 (.tmp 114), some (110, true)⟩, ⟨some 116, .fld 8 (.tmp
    5), some (110, true)⟩, ⟨some 117, .load false 1 (.tmp 116), some (110, true)⟩, ⟨some 118, .mv (.tmp 7), some (110, true)⟩, ⟨some 119, .bin .sub (.tmp 118) (.const (.int .i64
    1)), some (110, true)⟩, ⟨some 120, .idx 1 (.tmp 117) (.tmp 119), some (110, true)⟩, ⟨some 121, .load false 1 (.tmp 120), some (110, true)⟩, ⟨some 122, .bin .leq (.tmp 115) (.tmp
    121), some (110, true)⟩, ⟨some 123, .pick (.tmp 110) (.tmp 122) (.const (.bool false)), none⟩] [0, 1, 3, 7, 15, 7, 63, 127, 7, 263, 7, 1031, 3847, 7943, 16383, 32767] [0, 1, 2,
    3, 4, 5, 6, 7, 8, 9, 10, 11, 12, 13, 14, 15]) (.cond (.tmp 123) (.seq (.region [⟨some 124, .mv (.tmp 4), none⟩, ⟨some 2, .mv (.tmp 124), none⟩, ⟨some 3, .mv (.const (.int .i64
    9)), none⟩]) .ret) .skip)))) (.region [⟨some 96, .mv (.tmp 7), none⟩, ⟨some 97, .bin .add (.tmp 96) (.const (.int .i64 1)), none⟩, ⟨some 7, .mv (.tmp 97), none⟩]))))))))))))
    (.region [⟨some 15, .mv (.tmp 4), none⟩, ⟨some 16, .bin .add (.tmp 15) (.const (.int .i64 1)), none⟩, ⟨some 4, .mv (.tmp 16), none⟩])))))) (.seq (.region [⟨some 2, .mv (.const
    (.int .i64 0)), none⟩, ⟨some 3, .mv (.const (.int .i64 0)), none⟩]) .ret))))
theorem low45 : lowF Tryz.prog [] Tryz.f45 = some (125, lc45.strip, [.tmp 2, .tmp 3]) := by kernel_rfl
theorem fn45 : FnOk Tryz.prog 45 125 lc45 [.tmp 2, .tmp 3] := ⟨Tryz.call45, [], _, Tryz.func45, low45⟩
def lc46 : LCode :=
  (.seq (.region [⟨some 6, .mv (.const (.bool false)), none⟩]) (.seq (.region [⟨some 7, .mv (.tmp 1), none⟩, ⟨some 8, .mv (.tmp 0), none⟩, ⟨some 9, .bin .leq (.tmp 7) (.tmp 8),
    none⟩, ⟨some 10, .mv (.tmp 9), none⟩, ⟨some 11, .mv (.tmp 0), some (10, true)⟩, ⟨some 12, .mv (.tmp 2), some (10, true)⟩, ⟨some 13, .bin .leq (.tmp 11) (.tmp 12), some (10,
    true)⟩, ⟨some 14, .pick (.tmp 10) (.tmp 13) (.const (.bool false)), none⟩, ⟨some 6, .mv (.tmp 14), none⟩]) .ret))
theorem low46 : lowF Tryz.prog [] Tryz.f46 = some (15, lc46.strip, [.tmp 6]) := by kernel_rfl
theorem fn46 : FnOk Tryz.prog 46 15 lc46 [.tmp 6] := ⟨Tryz.call46, [], _, Tryz.func46, low46⟩
def lc54 : LCode :=
  (.seq (.region [⟨some 2, .mv (.const (.int .i64 0)), none⟩]) (.seq (.region [⟨some 3, .mv (.tmp 0), none⟩, ⟨some 4, .mv (.tmp 0), none⟩, ⟨some 5, .un .neg (.tmp 4), none⟩, ⟨some
    6, .mm true [(.tmp 3), (.tmp 5)], none⟩, ⟨some 2, .mv (.tmp 6), none⟩]) .ret))
theorem low54 : lowF Tryz.prog [] Tryz.f54 = some (7, lc54.strip, [.tmp 2]) := by kernel_rfl
theorem fn54 : FnOk Tryz.prog 54 7 lc54 [.tmp 2] := ⟨Tryz.call54, [], _, Tryz.func54, low54⟩
def lc64 : LCode :=
  (.seq (.region [⟨some 2, .boxS (.tmp 0), none⟩, ⟨some 3, .boxS (.tmp 1), none⟩, ⟨some 4, .mv (.const (.slice none 0 0)), none⟩, ⟨some 5, .mv (.const (.int .i64 0)), none⟩, ⟨some
    6, .mv (.const (.int .i64 0)), none⟩]) (.seq (.region [⟨some 12, .load true 8 (.tmp 2), none⟩, ⟨some 13, .load true 5 (.tmp 3), none⟩, ⟨some 14, .call (.func 141) [(.tmp 12),
    (.tmp 13)], none⟩, ⟨some 11, .mv (.tmp 14), none⟩, ⟨some 15, .ext (.tmp 11) 0, none⟩, ⟨some 16, .ext (.tmp 11) 1, none⟩, ⟨some 7, .alloc [(.slice none 0 0), (.slice none 0 0),
    (.slice none 0 0), (.slice none 0 0), (.int .i64 0), (.int .i64 0), (.int .i64 0), (.int .i64 0), (.int .i64 0), (.int .i64 0), (.int .i64 0), (.int .i64 0), (.slice none 0 0)],
    none⟩, ⟨none, .store 13 (.tmp 7) (.tmp 15), none⟩, ⟨some 8, .mv (.tmp 16), none⟩]) (.seq (.seq (.region [⟨some 17, .mv (.tmp 8), none⟩, ⟨some 18, .bin .neq (.tmp 17) (.const
    (.int .i64 0)), none⟩]) (.cond (.tmp 18) (.seq (.region [⟨some 19, .mv (.tmp 8), none⟩, ⟨some 4, .mv (.const (.slice none 0 0)), none⟩, ⟨some 5, .mv (.const (.int .i64 0)),
    none⟩, ⟨some 6, .mv (.tmp 19), none⟩]) .ret) .skip)) (.seq (.region [⟨some 21, .load true 13 (.tmp 7), none⟩, ⟨some 22, .call (.func 142) [(.tmp 21), (.func 143)], none⟩, ⟨some
    20, .mv (.tmp 22), none⟩, ⟨some 23, .ext (.tmp 20) 0, none⟩, ⟨some 24, .ext (.tmp 20) 1, none⟩, ⟨some 9, .mv (.tmp 23), none⟩, ⟨some 10, .mv (.tmp 24), none⟩]) (.seq (.region
    [⟨some 25, .mv (.tmp 9), none⟩, ⟨some 26, .mv (.tmp 10), none⟩, ⟨some 4, .mv (.tmp 25), none⟩, ⟨some 5, .mv (.tmp 26), none⟩, ⟨some 6, .mv (.const (.int .i64 0)), none⟩])
    .ret)))))
theorem low64 : lowF Tryz.prog [2, 3] Tryz.f64 = some (27, lc64.strip, [.tmp 4, .tmp 5, .tmp 6]) := by kernel_rfl
theorem fn64 : FnOk Tryz.prog 64 27 lc64 [.tmp 4, .tmp 5, .tmp 6] := ⟨Tryz.call64, [2, 3], _, Tryz.func64, low64⟩
def lc71 : LCode :=
  (.seq (.region [⟨some 2, .boxS (.tmp 0), none⟩, ⟨some 3, .boxS (.tmp 1), none⟩, ⟨some 4, .mv (.const (.slice none 0 0)), none⟩, ⟨some 5, .mv (.const (.int .i64 0)), none⟩]) (.seq
    (.region [⟨some 14, .load true 8 (.tmp 2), none⟩, ⟨some 15, .load true 5 (.tmp 3), none⟩, ⟨some 16, .call (.func 156) [(.tmp 14), (.tmp 15)], none⟩, ⟨some 13, .mv (.tmp 16),
    none⟩, ⟨some 17, .ext (.tmp 13) 0, none⟩, ⟨some 18, .ext (.tmp 13) 1, none⟩, ⟨some 6, .alloc [(.slice none 0 0), (.slice none 0 0), (.slice none 0 0), (.slice none 0 0), (.int
    .i64 0), (.int .i64 0), (.int .i64 0), (.int .i64 0), (.int .i64 0), (.int .i64 0), (.int .i64 0), (.int .i64 0), (.slice none 0 0)], none⟩, ⟨none, .store 13 (.tmp 6) (.tmp 17),
    none⟩, ⟨some 7, .mv (.tmp 18), none⟩]) (.seq (.seq (.region [⟨some 19, .mv (.tmp 7), none⟩, ⟨some 20, .bin .neq (.tmp 19) (.const (.int .i64 0)), none⟩]) (.cond (.tmp 20) (.seq
    (.region [⟨some 21, .mv (.tmp 7), none⟩, ⟨some 4, .mv (.const (.slice none 0 0)), none⟩, ⟨some 5, .mv (.tmp 21), none⟩]) .ret) .skip)) (.seq (.region [⟨some 8, .mv (.const
    (.slice none 0 0)), none⟩]) (.seq (.seq (.region [⟨some 9, .mv (.const (.int .i64 1)), none⟩]) (.block 0 (.loop (.seq (.seq (.region [⟨some 22, .mv (.tmp 9), none⟩, ⟨some 23,
    .fld 0 (.tmp 2), none⟩, ⟨some 24, .load false 1 (.tmp 23), none⟩, ⟨some 25, .len (.tmp 24), none⟩, ⟨some 26, .bin .shl (.const (.int .i64 1)) (.tmp 25), none⟩, ⟨some 27, .bin
    .lss (.tmp 22) (.tmp 26), none⟩]) (.cond (.tmp 27) .skip (.exit 0))) (.seq (.block 1 (.seq (.region [⟨some 10, .mv (.const (.slice none 0 0)), none⟩]) (.seq (.seq (.region
    [⟨some 30, .fld 0 (.tmp 2), none⟩, ⟨some 31, .load false 1 (.tmp 30), none⟩, ⟨some 32, .len (.tmp 31), none⟩, ⟨some 33, .mv (.const (.int .i64 0)), none⟩]) (.block 2 (.loop
    (.seq (.region [⟨some 34, .bin .lss (.tmp 33) (.tmp 32), none⟩]) (.seq (.cond (.tmp 34) .skip (.exit 2)) (.seq (.block 3 (.seq (.region [⟨some 35, .mv (.tmp 33), none⟩, ⟨some
    11, .mv (.tmp 35), none⟩]) (.seq (.region [⟨some 36, .mv (.tmp 9), none⟩, ⟨some 37, .mv (.tmp 11), none⟩, ⟨some 38, .bin .shr (.tmp 36) (.tmp 37), none⟩, ⟨some 39, .bin .and
    (.tmp 38) (.const (.int .i64 1)), none⟩, ⟨some 40, .bin .eql (.tmp 39) (.const (.int .i64 1)), none⟩]) (.cond (.tmp 40) (.region [⟨some 41, .mv (.tmp 10), none⟩, ⟨some 42, .mv
    (.tmp 11), none⟩, ⟨some 43, .lit false 3 1 [(.tmp 42)], none⟩, ⟨some 44, .append true 3 1 8 (.tmp 41) (.tmp 43), none⟩, ⟨some 10, .mv (.tmp 44), none⟩]) .skip)))) (.region
    [⟨some 45, .bin .add (.tmp 33) (.const (.int .i64 1)), none⟩, ⟨some 33, .mv (.tmp 45), none⟩]))))))) (.seq (.region [⟨some 46, .mv (.tmp 8), none⟩, ⟨some 47, .isnil false (.tmp
    46), none⟩, ⟨some 48, .mv (.tmp 47), none⟩, ⟨some 49, .mv (.tmp 10), some (48, false)⟩, ⟨some 50, .len (.tmp 49), some (48, false)⟩, ⟨some 51, .mv (.tmp 8), some (48, false)⟩,
    ⟨some 52, .len (.tmp 51), some (48, false)⟩, ⟨some 53, .call (.func 160) [(.tmp 50), (.tmp 52)], some (48, false)⟩, ⟨some 54, .mv (.tmp 10), some (48, false)⟩, ⟨some 55, .mv
    (.tmp 8), some (48, false)⟩, ⟨some 56, .call (.func 161) [(.tmp 54), (.tmp 55)], some (48, false)⟩, ⟨some 57, .lit false 3 1 [(.tmp 53), (.tmp 56)], some (48, false)⟩, ⟨some 58,
    .call (.func 148) [(.tmp 57)], some (48, false)⟩, ⟨some 59, .bin .lss (.tmp 58) (.const (.int .i64 0)), some (48, false)⟩, ⟨some 60, .pick (.tmp 48) (.const (.bool true)) (.tmp
    59), none⟩, ⟨some 12, .mv (.tmp 60), none⟩]) (.seq (.region [⟨some 61, .mv (.tmp 12), none⟩, ⟨some 62, .mv (.tmp 61), none⟩, ⟨some 63, .mv (.tmp 10), some (62, true)⟩, ⟨some 64,
    .load true 13 (.tmp 6), some (62, true)⟩, ⟨some 65, .mkfnB 144 (.tmp 64), some (62, true)⟩, ⟨some 66, .call (.func 158) [(.tmp 63), (.tmp 65)], some (62, true)⟩, ⟨some 67, .un
    .not (.tmp 66), some (62, true)⟩, ⟨some 68, .pick (.tmp 62) (.tmp 67) (.const (.bool false)), none⟩, ⟨some 69, .mv (.tmp 68), none⟩, ⟨some 70, .load true 13 (.tmp 6), some (69,
    true)⟩, ⟨some 71, .mv (.tmp 10), some (69, true)⟩, ⟨some 72, .call (.func 159) [(.tmp 70), (.tmp 71)], some (69, true)⟩, ⟨some 73, .un .not (.tmp 72), some (69, true)⟩, ⟨some
    74, .pick (.tmp 69) (.tmp 73) (.const (.bool false)), none⟩]) (.cond (.tmp 74) (.region [⟨some 75, .mv (.tmp 10), none⟩, ⟨some 8, .mv (.tmp 75), none⟩]) .skip)))))) (.region
    [⟨some 28, .mv (.tmp 9), none⟩, ⟨some 29, .bin .add (.tmp 28) (.const (.int .i64 1)), none⟩, ⟨some 9, .mv (.tmp 29), none⟩])))))) (.seq (.region [⟨some 76, .mv (.tmp 8), none⟩,
    ⟨some 77, .mv (.tmp 8), none⟩, ⟨some 78, .isnil true (.tmp 77), none⟩, ⟨some 79, .call (.func 152) [(.tmp 78), (.const (.int .i64 12))], none⟩, ⟨some 4, .mv (.tmp 76), none⟩,
    ⟨some 5, .mv (.tmp 79), none⟩]) .ret))))))
theorem low71 : lowF Tryz.prog [2, 3, 44] Tryz.f71 = some (80, lc71.strip, [.tmp 4, .tmp 5]) := by kernel_rfl
theorem fn71 : FnOk Tryz.prog 71 80 lc71 [.tmp 4, .tmp 5] := ⟨Tryz.call71, [2, 3, 44], _, Tryz.func71, low71⟩
def lc76 : LCode :=
  (.seq (.region [⟨some 2, .boxS (.tmp 0), none⟩, ⟨some 3, .boxS (.tmp 1), none⟩, ⟨some 4, .mv (.const (.int .i64 0)), none⟩, ⟨some 5, .mv (.const (.int .i64 0)), none⟩]) (.seq
    (.region [⟨some 10, .load true 8 (.tmp 2), none⟩, ⟨some 11, .load true 5 (.tmp 3), none⟩, ⟨some 12, .call (.func 156) [(.tmp 10), (.tmp 11)], none⟩, ⟨some 9, .mv (.tmp 12),
    none⟩, ⟨some 13, .ext (.tmp 9) 0, none⟩, ⟨some 14, .ext (.tmp 9) 1, none⟩, ⟨some 6, .alloc [(.slice none 0 0), (.slice none 0 0), (.slice none 0 0), (.slice none 0 0), (.int
    .i64 0), (.int .i64 0), (.int .i64 0), (.int .i64 0), (.int .i64 0), (.int .i64 0), (.int .i64 0), (.int .i64 0), (.slice none 0 0)], none⟩, ⟨none, .store 13 (.tmp 6) (.tmp 13),
    none⟩, ⟨some 7, .mv (.tmp 14), none⟩]) (.seq (.seq (.region [⟨some 15, .mv (.tmp 7), none⟩, ⟨some 16, .bin .neq (.tmp 15) (.const (.int .i64 0)), none⟩]) (.cond (.tmp 16) (.seq
    (.region [⟨some 17, .mv (.tmp 7), none⟩, ⟨some 4, .mv (.const (.int .i64 0)), none⟩, ⟨some 5, .mv (.tmp 17), none⟩]) .ret) .skip)) (.seq (.seq (.region [⟨some 18, .fld 0 (.tmp
    6), none⟩, ⟨some 19, .fld 7 (.tmp 18), none⟩, ⟨some 20, .load false 1 (.tmp 19), none⟩, ⟨some 8, .mv (.tmp 20), none⟩]) (.block 0 (.loop (.seq (.seq (.region [⟨some 21, .mv
    (.tmp 8), none⟩, ⟨some 22, .fld 8 (.tmp 6), none⟩, ⟨some 23, .fld 1 (.tmp 22), none⟩, ⟨some 24, .load false 1 (.tmp 23), none⟩, ⟨some 25, .bin .geq (.tmp 21) (.tmp 24), none⟩])
    (.cond (.tmp 25) .skip (.exit 0))) (.seq (.block 1 (.seq (.region [⟨some 28, .load true 13 (.tmp 6), none⟩, ⟨some 29, .mv (.tmp 8), none⟩, ⟨some 30, .call (.func 166) [(.tmp
    28), (.tmp 29)], none⟩, ⟨some 31, .call (.func 165) [(.tmp 30)], none⟩]) (.cond (.tmp 31) (.seq (.region [⟨some 32, .mv (.tmp 8), none⟩, ⟨some 4, .mv (.tmp 32), none⟩, ⟨some 5,
    .mv (.const (.int .i64 0)), none⟩]) .ret) .skip))) (.region [⟨some 26, .mv (.tmp 8), none⟩, ⟨some 27, .bin .sub (.tmp 26) (.const (.int .i64 1)), none⟩, ⟨some 8, .mv (.tmp 27),
    none⟩])))))) (.seq (.region [⟨some 4, .mv (.const (.int .i64 0)), none⟩, ⟨some 5, .mv (.const (.int .i64 12)), none⟩]) .ret)))))
theorem low76 : lowF Tryz.prog [2, 3] Tryz.f76 = some (33, lc76.strip, [.tmp 4, .tmp 5]) := by kernel_rfl
theorem fn76 : FnOk Tryz.prog 76 33 lc76 [.tmp 4, .tmp 5] := ⟨Tryz.call76, [2, 3], _, Tryz.func76, low76⟩
def lc94 : LCode :=
  (.seq (.region [⟨some 4, .mv (.const (.slice none 0 0)), none⟩]) (.seq (.region [⟨some 5, .mv (.tmp 0), none⟩, ⟨some 6, .mv (.tmp 1), none⟩, ⟨some 7, .call (.func 185) [(.tmp 5),
    (.tmp 6), (.const (.int .i64 0)), (.const (.int .i64 (-1)))], none⟩, ⟨some 4, .mv (.tmp 7), none⟩]) .ret))
theorem low94 : lowF Tryz.prog [] Tryz.f94 = some (8, lc94.strip, [.tmp 4]) := by kernel_rfl
theorem fn94 : FnOk Tryz.prog 94 8 lc94 [.tmp 4] := ⟨Tryz.call94, [], _, Tryz.func94, low94⟩
def lc101 : LCode :=
  (.seq (.region [⟨some 4, .mv (.const (.slice none 0 0)), none⟩]) (.seq (.region [⟨some 5, .mv (.const (.slice none 0 0)), none⟩]) (.seq (.region [⟨some 6, .mv (.const (.int .i64
    0)), none⟩]) (.seq (.seq (.region [⟨some 7, .mv (.const (.int .i64 0)), none⟩]) (.block 0 (.loop (.seq (.seq (.region [⟨some 8, .mv (.tmp 7), none⟩, ⟨some 9, .mv (.tmp 0),
    none⟩, ⟨some 10, .lenS (.tmp 9), none⟩, ⟨some 11, .bin .lss (.tmp 8) (.tmp 10), none⟩]) (.cond (.tmp 11) .skip (.exit 0))) (.seq (.block 1 (.seq (.region [⟨some 14, .mv (.tmp
    0), none⟩, ⟨some 15, .mv (.tmp 7), none⟩, ⟨some 16, .indexS (.tmp 14) (.tmp 15), none⟩, ⟨some 17, .mv (.tmp 1), none⟩, ⟨some 18, .bin .eql (.tmp 16) (.tmp 17), none⟩]) (.cond
    (.tmp 18) (.seq (.region [⟨some 19, .mv (.tmp 5), none⟩, ⟨some 20, .mv (.tmp 0), none⟩, ⟨some 21, .mv (.tmp 6), none⟩, ⟨some 22, .mv (.tmp 7), none⟩, ⟨some 23, .slcS (.tmp 20)
    (some (.tmp 21)) (some (.tmp 22)), none⟩, ⟨some 24, .lit false 9 1 [(.tmp 23)], none⟩, ⟨some 25, .append true 9 1 16 (.tmp 19) (.tmp 24), none⟩, ⟨some 5, .mv (.tmp 25), none⟩])
    (.region [⟨some 26, .mv (.tmp 7), none⟩, ⟨some 27, .bin .add (.tmp 26) (.const (.int .i64 1)), none⟩, ⟨some 6, .mv (.tmp 27), none⟩])) .skip))) (.region [⟨some 12, .mv (.tmp 7),
    none⟩, ⟨some 13, .bin .add (.tmp 12) (.const (.int .i64 1)), none⟩, ⟨some 7, .mv (.tmp 13), none⟩])))))) (.seq (.region [⟨some 28, .mv (.tmp 5), none⟩, ⟨some 29, .mv (.tmp 0),
    none⟩, ⟨some 30, .mv (.tmp 6), none⟩, ⟨some 31, .slcS (.tmp 29) (some (.tmp 30)) none, none⟩, ⟨some 32, .lit false 9 1 [(.tmp 31)], none⟩, ⟨some 33, .append true 9 1 16 (.tmp
    28) (.tmp 32), none⟩, ⟨some 4, .mv (.tmp 33), none⟩]) .ret)))))
theorem low101 : lowF Tryz.prog [25, 33] Tryz.f101 = some (34, lc101.strip, [.tmp 4]) := by kernel_rfl
theorem fn101 : FnOk Tryz.prog 101 34 lc101 [.tmp 4] := ⟨Tryz.call101, [25, 33], _, Tryz.func101, low101⟩
def lc106 : LCode :=
  (.seq (.region [⟨some 3, .boxS (.tmp 0), none⟩, ⟨some 4, .boxS (.tmp 1), none⟩, ⟨some 6, .alloc [(.int .i64 0), (.int .i64 0), (.int .i64 0), (.int .i64 0), (.slice none 0 0)],
    none⟩, ⟨some 7, .mv (.const (.int .i64 0)), none⟩]) (.seq (.region [⟨some 11, .load true 8 (.tmp 3), none⟩, ⟨some 12, .load true 5 (.tmp 4), none⟩, ⟨some 13, .call (.func 156)
    [(.tmp 11), (.tmp 12)], none⟩, ⟨some 10, .mv (.tmp 13), none⟩, ⟨some 14, .ext (.tmp 10) 0, none⟩, ⟨some 15, .ext (.tmp 10) 1, none⟩, ⟨some 8, .alloc [(.slice none 0 0), (.slice
    none 0 0), (.slice none 0 0), (.slice none 0 0), (.int .i64 0), (.int .i64 0), (.int .i64 0), (.int .i64 0), (.int .i64 0), (.int .i64 0), (.int .i64 0), (.int .i64 0), (.slice
    none 0 0)], none⟩, ⟨none, .store 13 (.tmp 8) (.tmp 14), none⟩, ⟨some 9, .mv (.tmp 15), none⟩]) (.seq (.seq (.region [⟨some 16, .mv (.tmp 9), none⟩, ⟨some 17, .bin .eql (.tmp 16)
    (.const (.int .i64 0)), none⟩]) (.cond (.tmp 17) (.region [⟨some 19, .load true 13 (.tmp 8), none⟩, ⟨some 20, .mv (.tmp 2), none⟩, ⟨some 21, .call (.func 196) [(.tmp 19), (.tmp
    20)], none⟩, ⟨some 18, .mv (.tmp 21), none⟩, ⟨some 22, .ext (.tmp 18) 0, none⟩, ⟨some 23, .ext (.tmp 18) 1, none⟩, ⟨none, .store 13 (.tmp 8) (.tmp 22), none⟩, ⟨some 9, .mv (.tmp
    23), none⟩]) .skip)) (.seq (.seq (.region [⟨some 24, .mv (.tmp 9), none⟩, ⟨some 25, .bin .neq (.tmp 24) (.const (.int .i64 0)), none⟩]) (.cond (.tmp 25) (.seq (.region [⟨some
    26, .build [(.int .i64 0), (.int .i64 0), (.int .i64 0), (.int .i64 0), (.slice none 0 0)] [], none⟩, ⟨some 27, .mv (.tmp 9), none⟩, ⟨none, .store 5 (.tmp 6) (.tmp 26), none⟩,
    ⟨some 7, .mv (.tmp 27), none⟩]) .ret) .skip)) (.seq (.region [⟨some 28, .fld 8 (.tmp 8), none⟩, ⟨some 29, .load true 5 (.tmp 28), none⟩, ⟨none, .store 5 (.tmp 6) (.tmp 29),
    none⟩, ⟨some 7, .mv (.const (.int .i64 0)), none⟩]) .ret)))))
theorem low106 : lowF Tryz.prog [3, 4] Tryz.f106 = some (30, lc106.strip, [.cell 6 true 5, .tmp 7]) := by kernel_rfl
theorem fn106 : FnOk Tryz.prog 106 30 lc106 [.cell 6 true 5, .tmp 7] := ⟨Tryz.call106, [3, 4], _, Tryz.func106, low106⟩
def lc107 : LCode :=
  (.seq (.region [⟨some 0, .alloc [(.slice none 0 0), (.slice none 0 0), (.slice none 0 0), (.slice none 0 0), (.int .i64 0), (.int .i64 0), (.int .i64 0), (.int .i64 0)], none⟩])
    (.seq (.region [⟨some 1, .build [(.int .i64 0), (.int .i64 0)] [(0, 1, (.const (.int .i64 0))), (1, 1, (.const (.int .i64 300)))], none⟩, ⟨some 2, .build [(.string ⟨#[]⟩), (.int
    .i64 0), (.int .i64 0), (.int .i64 0), (.int .i64 0), (.int .i64 0), (.int .i64 0), (.int .i64 0), (.slice none 0 0)] [(0, 1, (.const (.string ⟨#[118, 97, 108, 118, 101]⟩))),
    (1, 1, (.const (.int .i64 1))), (2, 1, (.const (.int .i64 20))), (3, 1, (.const (.int .i64 30))), (4, 1, (.const (.int .i64 4))), (5, 1, (.const (.int .i64 50))), (6, 2, (.tmp
    1))], none⟩, ⟨some 3, .build [(.int .i64 0), (.int .i64 0)] [(0, 1, (.const (.int .i64 80))), (1, 1, (.const (.int .i64 90)))], none⟩, ⟨some 4, .build [(.string ⟨#[]⟩), (.int
    .i64 0), (.int .i64 0), (.int .i64 0), (.int .i64 0), (.int .i64 0), (.int .i64 0), (.int .i64 0), (.slice none 0 0)] [(0, 1, (.const (.string ⟨#[112, 114, 111, 98, 101]⟩))),
    (1, 1, (.const (.int .i64 2))), (2, 1, (.const (.int .i64 10))), (3, 1, (.const (.int .i64 10))), (4, 1, (.const (.int .i64 1))), (5, 1, (.const (.int .i64 30))), (6, 2, (.tmp
    3))], none⟩, ⟨some 5, .build [(.int .i64 0), (.int .i64 0)] [(0, 1, (.const (.int .i64 0))), (1, 1, (.const (.int .i64 400)))], none⟩, ⟨some 6, .lit false 3 1 [(.const (.int
    .i64 0))], none⟩, ⟨some 7, .build [(.string ⟨#[]⟩), (.int .i64 0), (.int .i64 0), (.int .i64 0), (.int .i64 0), (.int .i64 0), (.int .i64 0), (.int .i64 0), (.slice none 0 0)]
    [(0, 1, (.const (.string ⟨#[99, 108, 111, 115, 101]⟩))), (1, 1, (.const (.int .i64 1))), (2, 1, (.const (.int .i64 10))), (3, 1, (.const (.int .i64 20))), (4, 1, (.const (.int
    .i64 2))), (5, 1, (.const (.int .i64 40))), (6, 2, (.tmp 5)), (8, 1, (.tmp 6))], none⟩, ⟨some 8, .lit false 182 9 [(.tmp 2), (.tmp 4), (.tmp 7)], none⟩, ⟨some 9, .lit false 3 1
    [(.const (.int .i64 0)), (.const (.int .i64 10)), (.const (.int .i64 20))], none⟩, ⟨some 10, .lit false 3 1 [(.const (.int .i64 10)), (.const (.int .i64 0)), (.const (.int .i64
    10))], none⟩, ⟨some 11, .lit false 3 1 [(.const (.int .i64 20)), (.const (.int .i64 10)), (.const (.int .i64 0))], none⟩, ⟨some 12, .lit false 49 1 [(.tmp 9), (.tmp 10), (.tmp
    11)], none⟩, ⟨some 13, .lit false 3 1 [(.const (.int .i64 30)), (.const (.int .i64 40)), (.const (.int .i64 50))], none⟩, ⟨some 14, .build [(.int .i64 0), (.int .i64 0)] [(0, 1,
    (.const (.int .i64 100))), (1, 1, (.const (.int .i64 199)))], none⟩, ⟨some 15, .build [(.int .i64 0), (.int .i64 0), (.int .i64 0)] [(0, 2, (.tmp 14)), (2, 1, (.const (.int .i64
    5)))], none⟩, ⟨some 16, .lit false 273 3 [(.tmp 15)], none⟩, ⟨some 17, .build [(.slice none 0 0), (.slice none 0 0), (.slice none 0 0), (.slice none 0 0), (.int .i64 0), (.int
    .i64 0), (.int .i64 0), (.int .i64 0)] [(0, 1, (.tmp 8)), (1, 1, (.tmp 12)), (2, 1, (.tmp 13)), (3, 1, (.tmp 16)), (4, 1, (.const (.int .i64 1))), (5, 1, (.const (.int .i64
    2))), (6, 1, (.const (.int .i64 20))), (7, 1, (.const (.int .i64 400)))], none⟩, ⟨none, .store 8 (.tmp 0) (.tmp 17), none⟩]) .ret))
theorem low107 : lowF Tryz.prog [] Tryz.f107 = some (18, lc107.strip, [.cell 0 true 8]) := by kernel_rfl
theorem fn107 : FnOk Tryz.prog 107 18 lc107 [.cell 0 true 8] := ⟨Tryz.call107, [], _, Tryz.func107, low107⟩
def lc108 : LCode :=
  (.seq (.region [⟨some 0, .alloc [(.int .i64 0), (.int .i64 0), (.int .i64 0), (.int .i64 0), (.slice none 0 0)], none⟩]) (.seq (.region [⟨some 1, .build [(.int .i64 0), (.int .i64
    0), (.int .i64 0), (.int .i64 0), (.slice none 0 0)] [(2, 1, (.const (.int .i64 300))), (3, 1, (.const (.int .i64 6)))], none⟩, ⟨none, .store 5 (.tmp 0) (.tmp 1), none⟩]) .ret))
theorem low108 : lowF Tryz.prog [] Tryz.f108 = some (2, lc108.strip, [.cell 0 true 5]) := by kernel_rfl
theorem fn108 : FnOk Tryz.prog 108 2 lc108 [.cell 0 true 5] := ⟨Tryz.call108, [], _, Tryz.func108, low108⟩
def lc109 : LCode :=
  (.seq (.region [⟨some 2, .mv (.const (.string ⟨#[]⟩)), none⟩]) (.seq (.region [⟨some 3, .mv (.const (.slice none 0 0)), none⟩]) (.seq (.seq (.region [⟨some 6, .mv (.tmp 0), none⟩,
    ⟨some 7, .len (.tmp 6), none⟩, ⟨some 8, .mv (.const (.int .i64 0)), none⟩]) (.block 0 (.loop (.seq (.region [⟨some 9, .bin .lss (.tmp 8) (.tmp 7), none⟩]) (.seq (.cond (.tmp 9)
    .skip (.exit 0)) (.seq (.block 1 (.seq (.region [⟨some 10, .idx 1 (.tmp 6) (.tmp 8), none⟩, ⟨some 11, .load false 1 (.tmp 10), none⟩, ⟨some 5, .mv (.tmp 11), none⟩]) (.region
    [⟨some 12, .mv (.tmp 3), none⟩, ⟨some 13, .mv (.tmp 5), none⟩, ⟨some 14, .call (.func 181) [(.tmp 13)], none⟩, ⟨some 15, .lit false 9 1 [(.tmp 14)], none⟩, ⟨some 16, .append
    true 9 1 16 (.tmp 12) (.tmp 15), none⟩, ⟨some 3, .mv (.tmp 16), none⟩]))) (.region [⟨some 17, .bin .add (.tmp 8) (.const (.int .i64 1)), none⟩, ⟨some 8, .mv (.tmp 17),
    none⟩]))))))) (.seq (.region [⟨some 18, .mv (.tmp 3), none⟩, ⟨some 19, .call (.func 93) [(.tmp 18), (.const (.string ⟨#[32]⟩))], none⟩, ⟨some 2, .mv (.tmp 19), none⟩]) .ret))))
theorem low109 : lowF Tryz.prog [16] Tryz.f109 = some (20, lc109.strip, [.tmp 2]) := by kernel_rfl
theorem fn109 : FnOk Tryz.prog 109 20 lc109 [.tmp 2] := ⟨Tryz.call109, [16], _, Tryz.func109, low109⟩
def lc110 : LCode :=
  (.seq (.region [⟨some 4, .mv (.const .nilFunc), none⟩]) (.seq (.region [⟨some 5, .mv (.tmp 0), none⟩, ⟨some 6, .mv (.tmp 1), none⟩, ⟨some 7, .call (.func 197) [(.tmp 5), (.tmp 6),
    (.const (.int .i64 0))], none⟩, ⟨some 4, .mv (.tmp 7), none⟩]) .ret))
theorem low110 : lowF Tryz.prog [] Tryz.f110 = some (8, lc110.strip, [.tmp 4]) := by kernel_rfl
theorem fn110 : FnOk Tryz.prog 110 8 lc110 [.tmp 4] := ⟨Tryz.call110, [], _, Tryz.func110, low110⟩
def lc111 : LCode :=
  (.seq (.region [⟨some 4, .mv (.const (.string ⟨#[]⟩)), none⟩, ⟨some 5, .mv (.const (.string ⟨#[]⟩)), none⟩, ⟨some 6, .mv (.const (.bool false)), none⟩]) (.seq (.region [⟨some 7,
    .mv (.tmp 0), none⟩, ⟨some 8, .mv (.tmp 1), none⟩, ⟨some 9, .call (.func 198) [(.tmp 7), (.tmp 8)], none⟩, ⟨some 10, .ext (.tmp 9) 0, none⟩, ⟨some 11, .ext (.tmp 9) 1, none⟩,
    ⟨some 12, .ext (.tmp 9) 2, none⟩, ⟨some 4, .mv (.tmp 10), none⟩, ⟨some 5, .mv (.tmp 11), none⟩, ⟨some 6, .mv (.tmp 12), none⟩]) .ret))
theorem low111 : lowF Tryz.prog [] Tryz.f111 = some (13, lc111.strip, [.tmp 4, .tmp 5, .tmp 6]) := by kernel_rfl
theorem fn111 : FnOk Tryz.prog 111 13 lc111 [.tmp 4, .tmp 5, .tmp 6] := ⟨Tryz.call111, [], _, Tryz.func111, low111⟩
def ra112 : LCode :=
  (.region [⟨some 7, .mv (.tmp 12), none⟩])
def rb112 : LCode :=
  (.block 1 (.seq (.region [⟨some 14, .mv (.tmp 7), none⟩, ⟨some 15, .call (.func 191) [(.tmp 14)], none⟩, ⟨some 13, .mv (.tmp 15), none⟩, ⟨some 16, .ext (.tmp 13) 0, none⟩, ⟨some
    17, .ext (.tmp 13) 1, none⟩, ⟨some 8, .mv (.tmp 16), none⟩, ⟨some 9, .mv (.tmp 17), none⟩]) (.seq (.seq (.region [⟨some 18, .mv (.tmp 9), none⟩, ⟨some 19, .nilI true (.tmp 18)
    (.const .nilIface), none⟩, ⟨some 20, .mv (.tmp 19), none⟩, ⟨some 21, .mv (.tmp 8), some (20, false)⟩, ⟨some 22, .bin .lss (.tmp 21) (.const (.int .i64 0)), some (20, false)⟩,
    ⟨some 23, .pick (.tmp 20) (.const (.bool true)) (.tmp 22), none⟩, ⟨some 24, .mv (.tmp 23), none⟩, ⟨some 25, .mv (.tmp 8), some (24, false)⟩, ⟨some 26, .call (.func 181) [(.tmp
    25)], some (24, false)⟩, ⟨some 27, .mv (.tmp 7), some (24, false)⟩, ⟨some 28, .eqS true (.tmp 26) (.tmp 27), some (24, false)⟩, ⟨some 29, .pick (.tmp 24) (.const (.bool true))
    (.tmp 28), none⟩, ⟨some 30, .mv (.tmp 29), none⟩, ⟨some 31, .mv (.tmp 7), some (30, false)⟩, ⟨some 32, .lenS (.tmp 31), some (30, false)⟩, ⟨some 33, .load false 1 (.tmp 3), some
    (30, false)⟩, ⟨some 34, .bin .gtr (.tmp 32) (.tmp 33), some (30, false)⟩, ⟨some 35, .pick (.tmp 30) (.const (.bool true)) (.tmp 34), none⟩]) (.cond (.tmp 35) (.seq (.region
    [⟨none, .store 1 (.tmp 4) (.const (.slice none 0 0)), none⟩, ⟨none, .store 1 (.tmp 5) (.const (.bool false)), none⟩]) .ret) .skip)) (.region [⟨some 36, .load false 1 (.tmp 6),
    none⟩, ⟨some 37, .mv (.tmp 8), none⟩, ⟨some 38, .lit false 3 1 [(.tmp 37)], none⟩, ⟨some 39, .append true 3 1 8 (.tmp 36) (.tmp 38), none⟩, ⟨none, .store 1 (.tmp 6) (.tmp 39),
    none⟩]))))
def lc112 : LCode :=
  (.seq (.region [⟨some 3, .boxS (.tmp 1), none⟩, ⟨some 4, .alloc [(.slice none 0 0)], none⟩, ⟨some 5, .alloc [(.bool false)], none⟩]) (.seq (.region [⟨some 6, .alloc [(.slice none
    0 0)], none⟩]) (.seq (.seq (.region [⟨some 10, .mv (.tmp 0), none⟩, ⟨some 11, .call (.func 110) [(.tmp 10), (.const (.string ⟨#[32]⟩))], none⟩]) (.block 0 (.rangeFunc (.tmp 11)
    [12] ra112 rb112))) (.seq (.region [⟨some 40, .load false 1 (.tmp 6), none⟩, ⟨none, .store 1 (.tmp 4) (.tmp 40), none⟩, ⟨none, .store 1 (.tmp 5) (.const (.bool true)), none⟩])
    .ret))))
theorem low112 : lowF Tryz.prog [3, 39] Tryz.f112 = some (41, lc112.strip, [.cell 4 false 1, .cell 5 false 1]) := by kernel_rfl
theorem fn112 : FnOk Tryz.prog 112 41 lc112 [.cell 4 false 1, .cell 5 false 1] := ⟨Tryz.call112, [3, 39], _, Tryz.func112, low112⟩
def lc113 : LCode :=
  (.seq (.region [⟨some 1, .boxS (.tmp 0), none⟩, ⟨some 2, .mv (.const (.int .i64 0)), none⟩, ⟨some 3, .mv (.const (.int .i64 0)), none⟩]) (.seq (.seq (.region [⟨some 4, .load false
    1 (.tmp 1), none⟩, ⟨some 5, .len (.tmp 4), none⟩, ⟨some 6, .bin .gtr (.tmp 5) (.const (.int .i64 6)), none⟩]) (.cond (.tmp 6) (.seq (.region [⟨some 2, .mv (.const (.int .i64
    0)), none⟩, ⟨some 3, .mv (.const (.int .i64 8)), none⟩]) .ret) .skip)) (.seq (.region [⟨some 7, .load false 1 (.tmp 1), none⟩, ⟨some 8, .mkfn 200 [(.tmp 1)], none⟩, ⟨some 9,
    .call (.func 199) [(.tmp 7), (.tmp 8)], none⟩, ⟨some 10, .ext (.tmp 9) 0, none⟩, ⟨some 11, .ext (.tmp 9) 1, none⟩, ⟨some 2, .mv (.tmp 10), none⟩, ⟨some 3, .mv (.tmp 11), none⟩])
    .ret)))
theorem low113 : lowF Tryz.prog [1] Tryz.f113 = some (12, lc113.strip, [.tmp 2, .tmp 3]) := by kernel_rfl
theorem fn113 : FnOk Tryz.prog 113 12 lc113 [.tmp 2, .tmp 3] := ⟨Tryz.call113, [1], _, Tryz.func113, low113⟩
def lc114 : LCode :=
  (.seq (.region [⟨some 4, .mv (.const (.slice none 0 0)), none⟩, ⟨some 5, .mv (.const (.bool false)), none⟩]) (.seq (.region [⟨some 6, .mv (.const (.slice none 0 0)), none⟩]) (.seq
    (.seq (.region [⟨some 7, .mv (.const (.int .i64 0)), none⟩]) (.block 0 (.loop (.seq (.seq (.region [⟨some 10, .mv (.tmp 7), none⟩, ⟨some 11, .mv (.tmp 0), none⟩, ⟨some 12, .len
    (.tmp 11), none⟩, ⟨some 13, .bin .lss (.tmp 10) (.tmp 12), none⟩]) (.cond (.tmp 13) .skip (.exit 0))) (.seq (.block 1 (.seq (.region [⟨some 17, .mv (.tmp 0), none⟩, ⟨some 18,
    .mv (.tmp 7), none⟩, ⟨some 19, .idx 1 (.tmp 17) (.tmp 18), none⟩, ⟨some 20, .load false 1 (.tmp 19), none⟩, ⟨some 21, .mv (.tmp 1), none⟩, ⟨some 22, .call (.func 194) [(.tmp
    20), (.tmp 21)], none⟩, ⟨some 16, .mv (.tmp 22), none⟩, ⟨some 23, .ext (.tmp 16) 0, none⟩, ⟨some 24, .ext (.tmp 16) 1, none⟩, ⟨some 8, .mv (.tmp 23), none⟩, ⟨some 9, .mv (.tmp
    24), none⟩]) (.seq (.seq (.region [⟨some 25, .mv (.tmp 9), none⟩, ⟨some 26, .un .not (.tmp 25), none⟩, ⟨some 27, .mv (.tmp 26), none⟩, ⟨some 28, .mv (.tmp 0), some (27, false)⟩,
    ⟨some 29, .mv (.tmp 7), some (27, false)⟩, ⟨some 30, .idx 1 (.tmp 28) (.tmp 29), some (27, false)⟩, ⟨some 31, .load false 1 (.tmp 30), some (27, false)⟩, ⟨some 32, .indexS (.tmp
    31) (.const (.int .i64 0)), some (27, false)⟩, ⟨some 33, .bin .eql (.tmp 32) (.const (.int .u8 45)), some (27, false)⟩, ⟨some 34, .pick (.tmp 27) (.const (.bool true)) (.tmp
    33), none⟩]) (.cond (.tmp 34) (.seq (.region [⟨some 4, .mv (.const (.slice none 0 0)), none⟩, ⟨some 5, .mv (.const (.bool false)), none⟩]) .ret) .skip)) (.region [⟨some 35, .mv
    (.tmp 6), none⟩, ⟨some 36, .mv (.tmp 8), none⟩, ⟨some 37, .lit false 3 1 [(.tmp 36)], none⟩, ⟨some 38, .append true 3 1 8 (.tmp 35) (.tmp 37), none⟩, ⟨some 6, .mv (.tmp 38),
    none⟩])))) (.region [⟨some 14, .mv (.tmp 7), none⟩, ⟨some 15, .bin .add (.tmp 14) (.const (.int .i64 1)), none⟩, ⟨some 7, .mv (.tmp 15), none⟩])))))) (.seq (.region [⟨some 39,
    .mv (.tmp 6), none⟩, ⟨some 4, .mv (.tmp 39), none⟩, ⟨some 5, .mv (.const (.bool true)), none⟩]) .ret))))
theorem low114 : lowF Tryz.prog [38] Tryz.f114 = some (40, lc114.strip, [.tmp 4, .tmp 5]) := by kernel_rfl
theorem fn114 : FnOk Tryz.prog 114 40 lc114 [.tmp 4, .tmp 5] := ⟨Tryz.call114, [38], _, Tryz.func114, low114⟩
def lc115 : LCode :=
  (.seq (.region [⟨some 2, .mv (.const (.string ⟨#[]⟩)), none⟩]) (.seq (.seq (.region [⟨some 6, .mv (.tmp 0), none⟩, ⟨some 7, .bin .eql (.tmp 6) (.const (.int .i64 0)), none⟩])
    (.cond (.tmp 7) (.seq (.region [⟨some 2, .mv (.const (.string ⟨#[48]⟩)), none⟩]) .ret) .skip)) (.seq (.region [⟨some 3, .mv (.const (.string ⟨#[]⟩)), none⟩, ⟨some 4, .mv (.const
    (.string ⟨#[]⟩)), none⟩]) (.seq (.seq (.region [⟨some 8, .mv (.tmp 0), none⟩, ⟨some 9, .bin .lss (.tmp 8) (.const (.int .i64 0)), none⟩]) (.cond (.tmp 9) (.region [⟨some 4, .mv
    (.const (.string ⟨#[45]⟩)), none⟩]) .skip)) (.seq (.block 0 (.loop (.seq (.seq (.region [⟨some 10, .mv (.tmp 0), none⟩, ⟨some 11, .bin .neq (.tmp 10) (.const (.int .i64 0)),
    none⟩]) (.cond (.tmp 11) .skip (.exit 0))) (.block 1 (.seq (.region [⟨some 12, .mv (.tmp 0), none⟩, ⟨some 13, .bin .rem (.tmp 12) (.const (.int .i64 10)), none⟩, ⟨some 5, .mv
    (.tmp 13), none⟩]) (.seq (.region [⟨some 14, .mv (.tmp 5), none⟩, ⟨some 15, .call (.func 54) [(.tmp 14)], none⟩, ⟨some 16, .bin .add (.const (.int .i64 48)) (.tmp 15), none⟩,
    ⟨some 17, .conv .u8 (.tmp 16), none⟩, ⟨some 18, .lit false 5 1 [(.tmp 17)], none⟩, ⟨some 19, .strB (.tmp 18), none⟩, ⟨some 20, .mv (.tmp 3), none⟩, ⟨some 21, .catS (.tmp 19)
    (.tmp 20), none⟩, ⟨some 3, .mv (.tmp 21), none⟩]) (.region [⟨some 22, .mv (.tmp 0), none⟩, ⟨some 23, .bin .quo (.tmp 22) (.const (.int .i64 10)), none⟩, ⟨some 0, .mv (.tmp 23),
    none⟩]))))))) (.seq (.region [⟨some 24, .mv (.tmp 4), none⟩, ⟨some 25, .mv (.tmp 3), none⟩, ⟨some 26, .catS (.tmp 24) (.tmp 25), none⟩, ⟨some 2, .mv (.tmp 26), none⟩])
    .ret))))))
theorem low115 : lowF Tryz.prog [] Tryz.f115 = some (27, lc115.strip, [.tmp 2]) := by kernel_rfl
theorem fn115 : FnOk Tryz.prog 115 27 lc115 [.tmp 2] := ⟨Tryz.call115, [], _, Tryz.func115, low115⟩
def lc116 : LCode :=
  (.seq (.region [⟨some 4, .mv (.const (.string ⟨#[]⟩)), none⟩]) (.seq (.region [⟨some 7, .mv (.tmp 0), none⟩, ⟨some 5, .mv (.tmp 7), none⟩]) (.seq (.seq (.region [⟨some 6, .mv
    (.const (.int .i64 0)), none⟩]) (.block 0 (.loop (.seq (.seq (.region [⟨some 8, .mv (.tmp 6), none⟩, ⟨some 9, .mv (.tmp 1), none⟩, ⟨some 10, .len (.tmp 9), none⟩, ⟨some 11, .bin
    .lss (.tmp 8) (.tmp 10), none⟩]) (.cond (.tmp 11) .skip (.exit 0))) (.seq (.block 1 (.seq (.seq (.region [⟨some 14, .mv (.tmp 5), none⟩, ⟨some 15, .eqS true (.tmp 14) (.const
    (.string ⟨#[]⟩)), none⟩]) (.cond (.tmp 15) (.region [⟨some 16, .mv (.tmp 5), none⟩, ⟨some 17, .catS (.tmp 16) (.const (.string ⟨#[32]⟩)), none⟩, ⟨some 5, .mv (.tmp 17), none⟩])
    .skip)) (.region [⟨some 18, .mv (.tmp 5), none⟩, ⟨some 19, .mv (.tmp 1), none⟩, ⟨some 20, .mv (.tmp 6), none⟩, ⟨some 21, .idx 1 (.tmp 19) (.tmp 20), none⟩, ⟨some 22, .load false
    1 (.tmp 21), none⟩, ⟨some 23, .call (.func 115) [(.tmp 22)], none⟩, ⟨some 24, .catS (.tmp 18) (.tmp 23), none⟩, ⟨some 5, .mv (.tmp 24), none⟩]))) (.region [⟨some 12, .mv (.tmp
    6), none⟩, ⟨some 13, .bin .add (.tmp 12) (.const (.int .i64 1)), none⟩, ⟨some 6, .mv (.tmp 13), none⟩])))))) (.seq (.region [⟨some 25, .mv (.tmp 5), none⟩, ⟨some 4, .mv (.tmp
    25), none⟩]) .ret))))
theorem low116 : lowF Tryz.prog [] Tryz.f116 = some (26, lc116.strip, [.tmp 4]) := by kernel_rfl
theorem fn116 : FnOk Tryz.prog 116 26 lc116 [.tmp 4] := ⟨Tryz.call116, [], _, Tryz.func116, low116⟩
def lc117 : LCode :=
  (.seq (.region [⟨some 2, .mv (.const (.bool false)), none⟩]) (.seq (.seq (.region [⟨some 6, .mv (.tmp 0), none⟩, ⟨some 7, .lenS (.tmp 6), none⟩, ⟨some 8, .bin .lss (.tmp 7)
    (.const (.int .i64 1)), none⟩, ⟨some 9, .mv (.tmp 8), none⟩, ⟨some 10, .mv (.tmp 0), some (9, false)⟩, ⟨some 11, .lenS (.tmp 10), some (9, false)⟩, ⟨some 12, .bin .gtr (.tmp 11)
    (.const (.int .i64 12)), some (9, false)⟩, ⟨some 13, .pick (.tmp 9) (.const (.bool true)) (.tmp 12), none⟩]) (.cond (.tmp 13) (.seq (.region [⟨some 2, .mv (.const (.bool
    false)), none⟩]) .ret) .skip)) (.seq (.seq (.region [⟨some 3, .mv (.const (.int .i64 0)), none⟩]) (.block 0 (.loop (.seq (.seq (.region [⟨some 14, .mv (.tmp 3), none⟩, ⟨some 15,
    .mv (.tmp 0), none⟩, ⟨some 16, .lenS (.tmp 15), none⟩, ⟨some 17, .bin .lss (.tmp 14) (.tmp 16), none⟩]) (.cond (.tmp 17) .skip (.exit 0))) (.seq (.block 1 (.seq (.region [⟨some
    20, .mv (.tmp 0), none⟩, ⟨some 21, .mv (.tmp 3), none⟩, ⟨some 22, .indexS (.tmp 20) (.tmp 21), none⟩, ⟨some 4, .mv (.tmp 22), none⟩]) (.seq (.region [⟨some 23, .mv (.tmp 4),
    none⟩, ⟨some 24, .bin .geq (.tmp 23) (.const (.int .u8 97)), none⟩, ⟨some 25, .mv (.tmp 24), none⟩, ⟨some 26, .mv (.tmp 4), some (25, true)⟩, ⟨some 27, .bin .leq (.tmp 26)
    (.const (.int .u8 122)), some (25, true)⟩, ⟨some 28, .pick (.tmp 25) (.tmp 27) (.const (.bool false)), none⟩, ⟨some 29, .mv (.tmp 28), none⟩, ⟨some 30, .mv (.tmp 4), some (29,
    false)⟩, ⟨some 31, .bin .geq (.tmp 30) (.const (.int .u8 65)), some (29, false)⟩, ⟨some 32, .mv (.tmp 31), some (29, false)⟩, ⟨some 33, .mv (.tmp 4), some (32, true)⟩, ⟨some 34,
    .bin .leq (.tmp 33) (.const (.int .u8 90)), some (32, true)⟩, ⟨some 35, .pick (.tmp 32) (.tmp 34) (.const (.bool false)), some (29, false)⟩, ⟨some 36, .pick (.tmp 29) (.const
    (.bool true)) (.tmp 35), none⟩, ⟨some 5, .mv (.tmp 36), none⟩]) (.seq (.region [⟨some 37, .mv (.tmp 5), none⟩, ⟨some 38, .un .not (.tmp 37), none⟩, ⟨some 39, .mv (.tmp 38),
    none⟩, ⟨some 40, .mv (.tmp 3), some (39, true)⟩, ⟨some 41, .bin .eql (.tmp 40) (.const (.int .i64 0)), some (39, true)⟩, ⟨some 42, .mv (.tmp 41), some (39, true)⟩, ⟨some 43, .mv
    (.tmp 4), some (42, false)⟩, ⟨some 44, .bin .neq (.tmp 43) (.const (.int .u8 45)), some (42, false)⟩, ⟨some 45, .mv (.tmp 44), some (42, false)⟩, ⟨some 46, .mv (.tmp 4), some
    (45, true)⟩, ⟨some 47, .bin .lss (.tmp 46) (.const (.int .u8 48)), some (45, true)⟩, ⟨some 48, .mv (.tmp 47), some (45, true)⟩, ⟨some 49, .mv (.tmp 4), some (48, false)⟩, ⟨some
    50, .bin .gtr (.tmp 49) (.const (.int .u8 57)), some (48, false)⟩, ⟨some 51, .pick (.tmp 48) (.const (.bool true)) (.tmp 50), some (45, true)⟩, ⟨some 52, .pick (.tmp 45) (.tmp
    51) (.const (.bool false)), some (42, false)⟩, ⟨some 53, .pick (.tmp 42) (.const (.bool true)) (.tmp 52), some (39, true)⟩, ⟨some 54, .pick (.tmp 39) (.tmp 53) (.const (.bool
    false)), none⟩]) (.cond (.tmp 54) (.seq (.region [⟨some 2, .mv (.const (.bool false)), none⟩]) .ret) .skip))))) (.region [⟨some 18, .mv (.tmp 3), none⟩, ⟨some 19, .bin .add
    (.tmp 18) (.const (.int .i64 1)), none⟩, ⟨some 3, .mv (.tmp 19), none⟩])))))) (.seq (.region [⟨some 2, .mv (.const (.bool true)), none⟩]) .ret))))
theorem low117 : lowF Tryz.prog [] Tryz.f117 = some (55, lc117.strip, [.tmp 2]) := by kernel_rfl
theorem fn117 : FnOk Tryz.prog 117 55 lc117 [.tmp 2] := ⟨Tryz.call117, [], _, Tryz.func117, low117⟩
def lc118 : LCode :=
  (.seq (.region [⟨some 2, .mv (.const (.bool false)), none⟩]) (.seq (.region [⟨some 3, .mv (.tmp 0), none⟩, ⟨some 4, .call (.func 46) [(.tmp 3), (.const (.int .i64 0)), (.const
    (.int .i64 10000))], none⟩, ⟨some 2, .mv (.tmp 4), none⟩]) .ret))
theorem low118 : lowF Tryz.prog [] Tryz.f118 = some (5, lc118.strip, [.tmp 2]) := by kernel_rfl
theorem fn118 : FnOk Tryz.prog 118 5 lc118 [.tmp 2] := ⟨Tryz.call118, [], _, Tryz.func118, low118⟩
def lc119 : LCode :=
  (.seq (.region [⟨some 2, .mv (.const (.bool false)), none⟩]) (.seq (.region [⟨some 3, .mv (.tmp 0), none⟩, ⟨some 4, .call (.func 46) [(.tmp 3), (.const (.int .i64 0)), (.const
    (.int .i64 100000))], none⟩, ⟨some 2, .mv (.tmp 4), none⟩]) .ret))
theorem low119 : lowF Tryz.prog [] Tryz.f119 = some (5, lc119.strip, [.tmp 2]) := by kernel_rfl
theorem fn119 : FnOk Tryz.prog 119 5 lc119 [.tmp 2] := ⟨Tryz.call119, [], _, Tryz.func119, low119⟩
end Go.Pw
