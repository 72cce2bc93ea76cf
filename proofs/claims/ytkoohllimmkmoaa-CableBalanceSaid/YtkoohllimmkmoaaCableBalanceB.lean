/- Steps toward the row of this claim: part 2 of 4. Proved as named below, on no condition but those that each theorem states. -/
import Derived.Test.YtkoohllimmkmoaaCableBalanceA
import Derived.RangeFuncRecord
import Derived.ProofKit
import Derived.Deep.Slices
namespace Go.Pw
open Go Go.RowKit
/-- What v stands for, v' stands for too. -/
def RI (v v' : V) : Prop := ∀ (Γ : Cx) (w : World) (u : Value), RepV Γ w v u → RepV Γ w v' u
theorem RI.refl (v : V) : RI v v := fun _ _ _ h => h
theorem VEq.ri {v v' : V} (h : VEq v v') : RI v v' := fun _ _ _ hr => h.rep hr
def wpO (F : Fence) (n : Nat) (P : Program) (opsA : Array Oper) (Q : Exit → Act → World → Prop) (o : Oper) (K : Act → World → Prop) (a : Act) (w : World) : Prop :=
  if Region.wanted o (yielded opsA a.tmps) = true then o.wpIn F n P a w K Q else (∀ f, o.about P w a.eval = some f → F.fn f) ∧ K (a.put o.dst undef) w
theorem lk_putE {env : List (Nat × V)} {dst : Option Nat} {v : V} {t : Nat} : lk (putE env dst v) t = if dst = some t then v else lk env t := by
  cases dst with
  | none => simp [putE]
  | some d => simp only [putE, lk_cons, Option.some.injEq]
/-- A step: from the slots that it reads (as env says) and the part σ0 of the store: v, and σ1 in the part's stead; names from lo to hi. -/
def VStep (P : Program) (N base : Nat) (i : LIns) (lo hi : Nat) (env : List (Nat × V)) (σ0 : Store) (v : V) (σ1 : Store) : Prop :=
  ∀ (ro : Option Nat) (n B0 : Nat) (own : List Nat) (opsA : Array Oper) (o : Oper), lowIns P N own opsA o = some i →
    ∀ (Γ : Cx) (w : World) (a : Act) (env' : List (Nat × V)) (σ : Store) (nxe : Nat), Conc N B0 base Γ w ⟨env', σ, nxe⟩ a → (∀ t ∈ i.reads, RI (lk env' t) (lk env t)) → Sub σ0 σ →
      (∀ id, lo ≤ id → id < hi → Γ.ρ id = none) → hi ≤ nxe → base ≤ lo →
      ∀ (K : Act → World → Prop) (Q : Exit → Act → World → Prop),
        (∀ Γ' w' a', Conc N B0 base Γ' w' ⟨putE env' i.dst v, app σ0 σ1 σ, nxe⟩ a' → Ext base Γ w σ Γ' w' (app σ0 σ1 σ) → (∀ id, ¬ (lo ≤ id ∧ id < hi) → Γ'.ρ id = Γ.ρ id) → K a' w') →
        wpO (FW ro) n P opsA Q o K a w
section
variable {P : Program} {N base : Nat} {i : LIns}
theorem Conc.put2 {B0 : Nat} {Γ Γ' : Cx} {w w' : World} {a : Act} {env : List (Nat × V)} {σ σ' : Store} {nx : Nat} {v : V} {u : Value} {dst : Option Nat} (h : Conc N B0 base Γ w ⟨env, σ, nx⟩ a) (hd : ∀ d, dst = some d → d < N) (hv : RepV Γ' w' v u)
    (hst : StoreOk Γ' w' σ') (hle : CxLe Γ Γ') (hext : Ext base Γ w σ Γ' w' σ') (hfree : ∀ id, nx ≤ id → Γ'.ρ id = none) :
    Conc N B0 base Γ' w' ⟨putE env dst v, σ', nx⟩ (a.put dst u) := by
  have hs := hext.same h.ok
  refine ⟨?_, fun t => ?_, hst, hfree, h.le, ?_⟩
  · cases dst <;> simp [Act.put, h.size]
  · cases dst with
    | none => exact (h.env t).mono hle hs
    | some d =>
      simp only [putE, Act.put, lk_cons]
      have hdN := hd d rfl
      by_cases hdt : d = t
      · subst hdt
        rw [if_pos rfl, Array.getD_eq_getD_getElem?, Array.getElem?_setIfInBounds_self_of_lt (by rw [h.size]; exact hdN)]
        exact hv
      · rw [if_neg hdt, Array.getD_eq_getD_getElem?, Array.getElem?_setIfInBounds_ne hdt, ← Array.getD_eq_getD_getElem?]
        exact (h.env t).mono hle hs
  · obtain ⟨Ds, h1, h2, h3⟩ := h.dfs
    refine ⟨Ds, by cases dst <;> exact h1, ⟨h2.1, Nat.le_trans h2.2 hext.size⟩, fun D hD => ?_⟩
    obtain ⟨h4, h5, h6, h7⟩ := h3 D hD
    have hlt : D < w.heap.size := (Array.getElem?_eq_some_iff.1 h7).1
    refine ⟨h4, fun hi => ?_, fun hl => ?_, (hext.keep D hlt h6).trans h7⟩
    · rcases hext.new D hi with h8 | h8 | h8
      · exact h5 h8
      · omega
      · exact h6 h8
    · rcases hext.live D hl with h8 | h8
      · exact h6 h8
      · omega
theorem live_congr {Γ : Cx} {σ τ : Store} (h : ∀ id, get σ id = get τ id) (k : Nat) : Live Γ σ k ↔ Live Γ τ k :=
  ⟨fun ⟨id, hl, hk⟩ => ⟨id, (liveId_of_get (h id)).1 hl, hk⟩, fun ⟨id, hl, hk⟩ => ⟨id, (liveId_of_get (h id)).2 hl, hk⟩⟩
theorem Conc.same {B0 : Nat} {Γ : Cx} {w : World} {a : Act} {env env' : List (Nat × V)} {σ σ' : Store} {nx : Nat} (h : Conc N B0 base Γ w ⟨env, σ, nx⟩ a) (he : ∀ t, RI (lk env t) (lk env' t)) (hs : ∀ id, get σ id = get σ' id) :
    Conc N B0 base Γ w ⟨env', σ', nx⟩ a := by
  refine ⟨h.size, fun t => he t _ _ _ (h.env t), h.ok.sub (fun id e hg => by rw [hs]; exact hg), h.free, h.le, ?_⟩
  obtain ⟨Ds, h1, h2, h3⟩ := h.dfs
  refine ⟨Ds, h1, h2, fun D hD => ?_⟩
  obtain ⟨h4, h5, h6, h7⟩ := h3 D hD
  exact ⟨h4, h5, fun hl => h6 ((live_congr hs D).2 hl), h7⟩
theorem Ext.same_store {Γ Γ' : Cx} {w w' : World} {σ σ1 σ2 : Store} (h : Ext base Γ w σ Γ' w' σ1) (hs : ∀ id, get σ1 id = get σ2 id) : Ext base Γ w σ Γ' w' σ2 :=
  ⟨h.os, h.tape, h.output, h.size, h.im, h.new, h.ρ, h.κ, h.keep, fun k hk => h.live k ((live_congr hs k).2 hk)⟩
/-- The slots that a step reads, as the step's env says; the others as they are. -/
def relab (env env' : List (Nat × V)) : List Nat → List (Nat × V)
  | [] => env'
  | t :: ts => (t, lk env t) :: relab env env' ts
theorem lk_relab {env env' : List (Nat × V)} : ∀ (l : List Nat) (t : Nat), lk (relab env env' l) t = if t ∈ l then lk env t else lk env' t
  | [], t => by simp [relab]
  | x :: l, t => by
    simp only [relab, lk_cons, lk_relab l t, List.mem_cons]
    by_cases h : x = t
    · subst h; simp
    · simp [h, Ne.symm h]
theorem evo_relab {env env' : List (Nat × V)} {l : List Nat} {x : Operand} (h : ∀ t ∈ rdOperand x, t ∈ l) : evo (relab env env' l) x = evo env x := by
  cases x with
  | tmp t => simp only [evo, lk_relab]; rw [if_pos (h t (by simp [rdOperand]))]
  | const v => cases v <;> simp only [evo] <;> (try (rename_i b; cases b <;> rfl))
  | global g => rfl
  | func f => rfl
theorem Conc.relab {B0 : Nat} {Γ : Cx} {w : World} {a : Act} {env env' : List (Nat × V)} {σ : Store} {nx : Nat} {l : List Nat} (h : Conc N B0 base Γ w ⟨env', σ, nx⟩ a) (hl : ∀ t ∈ l, RI (lk env' t) (lk env t)) : Conc N B0 base Γ w ⟨Pw.relab env env' l, σ, nx⟩ a :=
  h.same (fun t => by
    rw [lk_relab]
    split
    · exact hl t (by assumption)
    · exact RI.refl _) (fun _ => rfl)
theorem reads_opnd {x : Operand} (h : x ∈ i.op.opnds) : ∀ t ∈ rdOperand x, t ∈ i.reads := fun _ ht =>
  List.mem_append_left _ (List.mem_flatMap.2 ⟨x, h, ht⟩)
theorem reads_guard {t : Nat} {b : Bool} (h : i.guard = some (t, b)) : t ∈ i.reads := by
  refine List.mem_append_right _ ?_
  rw [h]; simp
theorem guardOf_congr {env env' : List (Nat × V)} (h : ∀ t b, i.guard = some (t, b) → lk env t = lk env' t) : guardOf env i.guard = guardOf env' i.guard := by
  cases hg : i.guard with
  | none => rfl
  | some p =>
    obtain ⟨t, b⟩ := p
    cases b <;> simp only [guardOf, h t _ hg]
theorem VStep.xop {env : List (Nat × V)} {σ0 σ1 : Store} {lo nx' : Nat} {v : V} {ob : Prop} (hg : guardOf env i.guard = .run) (hx : xop (evo env) σ0 lo i.op = some (ob, v, σ1, nx')) (hob : ob) :
    VStep P N base i lo (lo + 1) env σ0 v σ1 := by
  intro ro n B0 own opsA o hi Γ w a env' σ nxe hc hre hsub hfr hhi hbase K Q hK
  obtain ⟨⟨b, hop⟩, hdst, hdN, hgd⟩ := lowIns_some hi
  have hc2 := hc.relab (env := env) (l := i.reads) hre
  have hev : ∀ x ∈ i.op.opnds, evo env x = evo (Pw.relab env env' i.reads) x := fun x hx => (evo_relab (reads_opnd hx)).symm
  have hgr : guardOf (Pw.relab env env' i.reads) i.guard = .run := by
    rw [← hg]
    refine guardOf_congr (fun t b hgt => ?_)
    rw [lk_relab, if_pos (reads_guard hgt)]
  rw [xop_congr i.op hev, hop] at hx
  obtain ⟨u, w', Γ', hr, hv, hst, hle, hext, hρ, hnx⟩ := xop_sound (P := P) (base := base) (Γ := Γ) (w := w) (o := o) (ρ := a.eval) (fun x => hc2.ev x) (hc.ok.sub hsub) (hfr lo (Nat.le_refl _) (by omega)) hbase hx hob
  obtain ⟨hst', hext'⟩ := frame hc.ok hsub hst hle hext
  have hfree : ∀ id, nxe ≤ id → Γ'.ρ id = none := fun id hid => by
    rw [hρ id (by omega)]; exact hc.free id hid
  have hfin := hK Γ' w' (a.put o.dst u) (by rw [hdst]; exact hc.put2 hdN hv hst' hle hext' hfree) hext' (fun id hid => hρ id (by omega))
  have hw : Region.wanted o (yielded opsA a.tmps) = true := (guardOf_run (i := i) (σ := σ) (nx := nxe) hgr).wanted hc2 hgd
  simp only [wpO, hw, if_true, Oper.wpIn]
  refine ⟨fun _ _ => trivial, ?_⟩
  rw [semAt_low hx]
  rcases hr with h1 | ⟨h1, rfl⟩
  · rw [h1]; exact hfin
  · rw [h1]; exact hfin
theorem VStep.skip {env : List (Nat × V)} {lo : Nat} (hg : guardOf env i.guard = .skip) : VStep P N base i lo lo env [] (.tup []) [] := by
  intro ro n B0 own opsA o hi Γ w a env' σ nxe hc hre hsub hfr hhi hbase K Q hK
  obtain ⟨⟨b, hop⟩, hdst, hdN, hgd⟩ := lowIns_some hi
  have hc2 := hc.relab (env := env) (l := i.reads) hre
  have hgr : guardOf (Pw.relab env env' i.reads) i.guard = .skip := by
    rw [← hg]
    refine guardOf_congr (fun t b hgt => ?_)
    rw [lk_relab, if_pos (reads_guard hgt)]
  have hw : Region.wanted o (yielded opsA a.tmps) = false := (guardOf_skip (i := i) (σ := σ) (nx := nxe) hgr).unwanted hc2 hgd
  simp only [wpO, hw, Bool.false_eq_true, if_false]
  refine ⟨fun _ _ => trivial, hK Γ w _ ?_ (Ext.refl _ _ _ _) (fun _ _ => rfl)⟩
  rw [hdst]
  exact hc.put2 hdN rep_undef hc.ok (CxLe.refl _) (Ext.refl _ _ _ _) hc.free
end
structure Rec where
  ins : LIns
  lo : Nat
  hi : Nat
  env : List (Nat × V)
  σ0 : Store
  v : V
  σ1 : Store
  rd : Bool
def Rec.ids (r : Rec) : List Nat := dom r.σ0 ++ dom r.σ1
def Rec.fp (r : Rec) : Bool × List Nat := (r.rd, r.ids)
theorem get_app_same {σ0 σ : Store} (h : Sub σ0 σ) (id : Nat) : get (app σ0 σ0 σ) id = get σ id := by
  rw [get_app]
  cases hg : get σ0 id with
  | some e => exact (h id e hg).symm
  | none => simp [get_none_dom.1 hg]
def T (envF : List (Nat × V)) (σF : Store) : List Rec → List (Nat × V) → Store → Prop
  | [], env, σ => (∀ t, RI (lk env t) (lk envF t)) ∧ ∀ id, get σ id = get σF id
  | r :: rs, env, σ => (∀ t ∈ r.ins.reads, RI (lk env t) (lk r.env t)) ∧ Sub r.σ0 σ ∧ T envF σF rs (putE env r.ins.dst r.v) (app r.σ0 r.σ1 σ)
theorem T_congr {envF : List (Nat × V)} {σF : Store} : ∀ (rs : List Rec) {env env' : List (Nat × V)} {σ σ' : Store}, (∀ t, lk env t = lk env' t) → (∀ id, get σ id = get σ' id) → T envF σF rs env σ → T envF σF rs env' σ'
  | [], env, env', σ, σ', he, hs, h => ⟨fun t => by rw [← he]; exact h.1 t, fun id => by rw [← hs]; exact h.2 id⟩
  | r :: rs, env, env', σ, σ', he, hs, h => by
    obtain ⟨h1, h2, h3⟩ := h
    refine ⟨fun t ht => by rw [← he]; exact h1 t ht, fun id e hg => by rw [← hs]; exact h2 id e hg, T_congr rs (fun t => ?_) (fun id => ?_) h3⟩
    · rw [lk_putE, lk_putE, he]
    · rw [get_app, get_app, hs]
def Indep (p i : Rec) : Prop :=
  (∀ d, p.ins.dst = some d → d ∉ i.ins.reads ∧ i.ins.dst ≠ some d) ∧ (∀ d, i.ins.dst = some d → d ∉ p.ins.reads) ∧ ((p.σ1 = p.σ0 ∧ i.σ1 = i.σ0) ∨ ∀ id ∈ p.ids, id ∉ i.ids)
theorem T_swap {envF : List (Nat × V)} {σF : Store} {p i : Rec} {rs : List Rec} {env : List (Nat × V)} {σ : Store} (h : T envF σF (p :: i :: rs) env σ) (hi : Indep p i) : T envF σF (i :: p :: rs) env σ := by
  obtain ⟨h1, h2, h3, h4, h5⟩ := h
  obtain ⟨i1, i2, i3⟩ := hi
  have hput : ∀ t, lk (putE (putE env p.ins.dst p.v) i.ins.dst i.v) t = lk (putE (putE env i.ins.dst i.v) p.ins.dst p.v) t := fun t => by
    simp only [lk_putE]
    by_cases hd : i.ins.dst = some t
    · rw [if_pos hd]
      by_cases hd' : p.ins.dst = some t
      · exact absurd hd (i1 t hd').2
      · rw [if_neg hd', if_pos hd]
    · rw [if_neg hd]
      by_cases hd' : p.ins.dst = some t
      · rw [if_pos hd', if_pos hd']
      · rw [if_neg hd', if_neg hd', if_neg hd]
  have hreads : ∀ t ∈ i.ins.reads, RI (lk env t) (lk i.env t) := fun t ht => by
    have := h3 t ht
    rw [lk_putE, if_neg (fun hd => (i1 t hd).1 ht)] at this
    exact this
  have hreadp : ∀ t ∈ p.ins.reads, RI (lk (putE env i.ins.dst i.v) t) (lk p.env t) := fun t ht => by
    rw [lk_putE, if_neg (fun hd => i2 t hd ht)]; exact h1 t ht
  rcases i3 with ⟨ep, ei⟩ | i3
  · have hsi : Sub i.σ0 σ := fun id e hg => by
      have := h4 id e hg
      rw [ep, get_app_same h2] at this
      exact this
    have hsp : Sub p.σ0 (app i.σ0 i.σ1 σ) := fun id e hg => by
      rw [ei, get_app_same hsi]
      exact h2 id e hg
    refine ⟨hreads, hsi, hreadp, hsp, T_congr rs hput (fun id => ?_) h5⟩
    have e1 : get (app i.σ0 i.σ1 (app p.σ0 p.σ1 σ)) id = get σ id := by
      rw [ei, get_app_same h4, ep, get_app_same h2]
    have e2 : get (app p.σ0 p.σ1 (app i.σ0 i.σ1 σ)) id = get σ id := by
      rw [ep, get_app_same hsp, ei, get_app_same hsi]
    rw [e1, e2]
  have hp0 : ∀ id, id ∈ dom p.σ0 → id ∉ dom i.σ0 ∧ id ∉ dom i.σ1 := fun id h => by
    have := i3 id (List.mem_append_left _ h)
    exact ⟨fun hh => this (List.mem_append_left _ hh), fun hh => this (List.mem_append_right _ hh)⟩
  have hp1 : ∀ id, id ∈ dom p.σ1 → id ∉ dom i.σ0 ∧ id ∉ dom i.σ1 := fun id h => by
    have := i3 id (List.mem_append_right _ h)
    exact ⟨fun hh => this (List.mem_append_left _ hh), fun hh => this (List.mem_append_right _ hh)⟩
  refine ⟨hreads, fun id e hg => ?_, hreadp, fun id e hg => ?_, T_congr rs hput (fun id => ?_) h5⟩
  · have := h4 id e hg
    have hid := get_some_dom hg
    rw [get_app_other (fun hh => (hp0 id hh).1 hid) (fun hh => (hp1 id hh).1 hid)] at this
    exact this
  · have hid := get_some_dom hg
    rw [get_app_other (hp0 id hid).1 (hp0 id hid).2]
    exact h2 id e hg
  · by_cases hi : id ∈ dom i.σ0 ∨ id ∈ dom i.σ1
    · have hn0 : id ∉ dom p.σ0 := fun hh => hi.elim (hp0 id hh).1 (hp0 id hh).2
      have hn1 : id ∉ dom p.σ1 := fun hh => hi.elim (hp1 id hh).1 (hp1 id hh).2
      rw [get_app_other (σ := app i.σ0 i.σ1 σ) hn0 hn1]
      have e1 : get (app p.σ0 p.σ1 σ) id = get σ id := get_app_other hn0 hn1
      rw [get_app, e1, get_app]
    · have hn0 : id ∉ dom i.σ0 := fun hh => hi (.inl hh)
      have hn1 : id ∉ dom i.σ1 := fun hh => hi (.inr hh)
      rw [get_app_other hn0 hn1]
      have e1 : get (app i.σ0 i.σ1 σ) id = get σ id := get_app_other hn0 hn1
      rw [get_app (σ0 := p.σ0) (σ := app i.σ0 i.σ1 σ), e1, get_app]
theorem T_front {envF : List (Nat × V)} {σF : Store} {i : Rec} {post : List Rec} : ∀ (pre : List Rec) {env : List (Nat × V)} {σ : Store}, T envF σF (pre ++ i :: post) env σ → (∀ p ∈ pre, Indep p i) → T envF σF (i :: (pre ++ post)) env σ
  | [], _, _, h, _ => h
  | p :: pre, env, σ, h, hi => by
    obtain ⟨h1, h2, h3⟩ := h
    exact T_swap ⟨h1, h2, T_front pre h3 fun q hq => hi q (by simp [hq])⟩ (hi p (by simp))
section
variable {P : Program} {N base : Nat}
theorem getD_set_self {l : Array Bool} {k : Nat} : (l.setIfInBounds k true).getD k true = true := by
  rw [Array.getD_eq_getD_getElem?]
  by_cases h : k < l.size
  · rw [Array.getElem?_setIfInBounds_self_of_lt h]; rfl
  · rw [Array.getElem?_eq_none (by simp; omega)]; rfl
theorem getD_set_other {l : Array Bool} {k j : Nat} (h : k ≠ j) : (l.setIfInBounds k true).getD j true = l.getD j true := by
  rw [Array.getD_eq_getD_getElem?, Array.getElem?_setIfInBounds_ne h, ← Array.getD_eq_getD_getElem?]
theorem getD_true_of_false {l : Array Bool} {j : Nat} (h : l.getD j false = true) : l.getD j true = true := by
  rw [Array.getD_eq_getD_getElem?] at h ⊢
  cases hj : l[j]? with
  | none => rfl
  | some b => rw [hj] at h; exact h
theorem sched {ro : Option Nat} {n B0 nxe : Nat} {own : List Nat} {opsA : Array Oper} {A : Nat → Nat → Bool} {envF : List (Nat × V)} {σF : Store} {Γ0 : Cx} {w0 : World} {σ0 : Store}
    (hback : ∀ k o, opsA[k]? = some o → ∀ e ∈ o.after, Region.binds .any e = true → e.on < k)
    (hA : ∀ j k, A j k = true → ∃ o, opsA[k]? = some o ∧ ∃ e ∈ o.after, Region.binds .any e = true ∧ (e.on = j ∨ A j e.on = true)) :
    ∀ (fuel : Nat) (listed : Array Bool) (rem : List (Nat × Rec)) (env : List (Nat × V)) (σ : Store) (Γ : Cx) (a : Act) (w : World), listed.size = opsA.size →
      (∀ j, (∃ r, (j, r) ∈ rem) ↔ listed.getD j true = false) → rem.Pairwise (fun p q => p.1 < q.1) →
      (∀ j r, (j, r) ∈ rem → ∃ o, opsA[j]? = some o ∧ lowIns P N own opsA o = some r.ins) →
      (∀ j r, (j, r) ∈ rem → VStep P N base r.ins r.lo r.hi r.env r.σ0 r.v r.σ1 ∧ base ≤ r.lo ∧ r.hi ≤ nxe) →
      rem.Pairwise (fun p q => A p.1 q.1 = true ∨ Indep p.2 q.2) → rem.Pairwise (fun p q => p.2.hi ≤ q.2.lo) →
      (∀ j r, (j, r) ∈ rem → ∀ id, r.lo ≤ id → id < r.hi → Γ.ρ id = none) →
      (∀ j k, A j k = true → listed.getD k true = true → k < opsA.size → listed.getD j true = true) →
      T envF σF (rem.map Prod.snd) env σ → Conc N B0 base Γ w ⟨env, σ, nxe⟩ a → Ext base Γ0 w0 σ0 Γ w σ → rem.length ≤ fuel →
      wpAnyIn (FW ro) n P .any opsA (Post N B0 base Γ0 w0 σ0 fun e st' => e = .normal ∧ st' = ⟨envF, σF, nxe⟩) fuel listed a w := by
  intro fuel
  induction fuel with
  | zero =>
    intro listed rem env σ Γ a w hsz hrem hidx hops hval hind hnm hfr hcl hT hc hext hfuel
    have hnil : rem = [] := List.length_eq_zero_iff.1 (by omega)
    subst hnil
    refine ⟨?_, Γ, _, hc.same hT.1 hT.2, hext.same_store hT.2, rfl, rfl⟩
    refine List.eq_nil_iff_forall_not_mem.2 fun j hj => ?_
    obtain ⟨r, hr⟩ := (hrem j).2 (mem_ready.1 hj).1
    cases hr
  | succ fuel ih =>
    intro listed rem env σ Γ a w hsz hrem hidx hops hval hind hnm hfr hcl hT hc hext hfuel
    refine ⟨fun hnone => ?_, fun k hk => ?_⟩
    · cases rem with
      | nil => exact ⟨Γ, _, hc.same hT.1 hT.2, hext.same_store hT.2, rfl, rfl⟩
      | cons p rem =>
        obtain ⟨j, r⟩ := p
        exfalso
        obtain ⟨o, ho, hlo⟩ := hops j r (by simp)
        have hjl : listed.getD j true = false := (hrem j).1 ⟨r, by simp⟩
        have : j ∈ Region.ready .any opsA listed := mem_ready.2 ⟨hjl, o, ho, fun e he hb => ?_⟩
        · rw [hnone] at this; cases this
        · have hlt := hback j o ho e he hb
          have hjs : j < opsA.size := (Array.getElem?_eq_some_iff.1 ho).1
          have hes : e.on < listed.size := by omega
          cases hb' : listed.getD e.on true with
          | true =>
            rw [Array.getD_eq_getD_getElem?, Array.getElem?_eq_getElem hes] at hb' ⊢
            exact hb'
          | false =>
            obtain ⟨r', hr'⟩ := (hrem e.on).2 hb'
            rcases List.mem_cons.1 hr' with h1 | h1
            · have : e.on = j := congrArg Prod.fst h1
              omega
            · have : j < e.on := (List.pairwise_cons.1 hidx).1 _ h1
              omega
    · obtain ⟨hkl, o, ho, hall⟩ := mem_ready.1 hk
      obtain ⟨r, hr⟩ := (hrem k).2 hkl
      obtain ⟨pre, post, rfl⟩ := List.append_of_mem hr
      obtain ⟨o', ho', hlo⟩ := hops k r hr
      rw [ho] at ho'; cases ho'
      obtain ⟨hvs, hblo, hhie⟩ := hval k r hr
      have hks : k < opsA.size := (Array.getElem?_eq_some_iff.1 ho).1
      have hanc : ∀ j, A j k = true → listed.getD j true = true := fun j hj => by
        obtain ⟨o2, ho2, e, he, hb, h1⟩ := hA j k hj
        rw [ho] at ho2; cases ho2
        have hel := getD_true_of_false (hall e he hb)
        rcases h1 with h1 | h1
        · rw [← h1]; exact hel
        · exact hcl j e.on h1 hel (by have := hback k o ho e he hb; omega)
      have hpre : ∀ p ∈ pre, Indep p.2 r := fun p hp => by
        rcases (List.pairwise_append.1 hind).2.2 p hp (k, r) (by simp) with h1 | h1
        · have h2 := hanc _ h1
          have h3 := (hrem p.1).1 ⟨p.2, by simp [hp]⟩
          rw [h2] at h3; cases h3
        · exact h1
      have hT' : T envF σF (r :: ((pre ++ post).map Prod.snd)) env σ := by
        rw [List.map_append] at hT ⊢
        exact T_front _ hT fun p hp => by
          obtain ⟨q, hq, rfl⟩ := List.mem_map.1 hp
          exact hpre q hq
      obtain ⟨t1, t2, t3⟩ := hT'
      have hsub : (pre ++ post).Sublist (pre ++ (k, r) :: post) := List.Sublist.append (List.Sublist.refl _) (List.sublist_cons_self _ _)
      have hne : ∀ j r', (j, r') ∈ pre ++ post → j ≠ k := fun j r' hj heq => by
        subst heq
        rcases List.mem_append.1 hj with h1 | h1
        · have := (List.pairwise_append.1 hidx).2.2 _ h1 (j, r) (by simp)
          exact Nat.lt_irrefl _ this
        · have := (List.pairwise_cons.1 (List.pairwise_append.1 hidx).2.1).1 _ h1
          exact Nat.lt_irrefl _ this
      show wpOpIn (FW ro) n P opsA _ k _ a w
      unfold wpOpIn
      rw [ho]
      refine hvs ro n B0 own opsA o hlo Γ w a env σ nxe hc t1 t2 (fun id h1 h2 => hfr k r hr id h1 h2) hhie hblo _ _ (fun Γ' w' a' hc' hext' hρ => ?_)
      refine ih (listed.setIfInBounds k true) (pre ++ post) _ _ Γ' a' w' (by simpa using hsz) (fun j => ?_) (hidx.sublist hsub) (fun j r' hj => hops j r' (hsub.subset hj)) (fun j r' hj => hval j r' (hsub.subset hj)) (hind.sublist hsub) (hnm.sublist hsub)
        (fun j r' hj id h1 h2 => ?_) (fun j k2 hjk hk2 hk2s => ?_) t3 hc' (hext.trans hext') (by simp only [List.length_append, List.length_cons] at hfuel ⊢; omega)
      · by_cases hjk : j = k
        · subst hjk
          rw [getD_set_self]
          constructor
          · rintro ⟨r', hr'⟩; exact absurd rfl (hne j r' hr')
          · intro h; cases h
        · rw [getD_set_other (Ne.symm hjk), ← hrem j]
          constructor
          · rintro ⟨r', hr'⟩; exact ⟨r', hsub.subset hr'⟩
          · rintro ⟨r', hr'⟩
            refine ⟨r', ?_⟩
            simp only [List.mem_append, List.mem_cons, Prod.mk.injEq, hjk, false_and, false_or] at hr' ⊢
            exact hr'
      · rw [hρ id]
        · exact hfr j r' (hsub.subset hj) id h1 h2
        · rintro ⟨h3, h4⟩
          rcases List.mem_append.1 hj with h5 | h5
          · have := (List.pairwise_append.1 hnm).2.2 _ h5 (k, r) (by simp)
            simp only at this
            omega
          · have := (List.pairwise_cons.1 (List.pairwise_append.1 hnm).2.1).1 _ h5
            simp only at this
            omega
      · by_cases hj : j = k
        · subst hj; exact getD_set_self
        · rw [getD_set_other (Ne.symm hj)]
          by_cases hk2' : k2 = k
          · subst hk2'; exact hanc j hjk
          · rw [getD_set_other (Ne.symm hk2')] at hk2
            exact hcl j k2 hjk hk2 hk2s
end
end Go.Pw

namespace Go.Pw
open Go Go.RowKit
theorem testBit_foldl {M : List Nat} {j : Nat} : ∀ (l : List Edge) (m : Nat), (l.foldl (fun m e => m ||| (1 <<< e.on) ||| M.getD e.on 0) m).testBit j = true → m.testBit j = true ∨ ∃ e ∈ l, e.on = j ∨ (M.getD e.on 0).testBit j = true
  | [], m, h => .inl h
  | e :: l, m, h => by
    simp only [List.foldl_cons] at h
    rcases testBit_foldl l _ h with h1 | ⟨e', h1, h2⟩
    · simp only [Nat.testBit_or, Bool.or_eq_true] at h1
      rcases h1 with (h1 | h1) | h1
      · exact .inl h1
      · refine .inr ⟨e, by simp, .inl ?_⟩
        rw [Nat.one_shiftLeft, Nat.testBit_two_pow] at h1
        simpa using h1
      · exact .inr ⟨e, by simp, .inr h1⟩
    · exact .inr ⟨e', by simp [h1], h2⟩
theorem mkMasks_spec : ∀ (os : List Oper) (M : List Nat), ∃ R, mkMasks os M = M ++ R ∧ R.length = os.length ∧ ∀ i o, os[i]? = some o → R[i]? = some (mkMask (M ++ R.take i) o)
  | [], M => ⟨[], by simp [mkMasks], rfl, fun i o h => by simp at h⟩
  | o :: os, M => by
    obtain ⟨R, h1, h2, h3⟩ := mkMasks_spec os (M ++ [mkMask M o])
    refine ⟨mkMask M o :: R, by simp [mkMasks, h1], by simp [h2], fun i o' ho' => ?_⟩
    cases i with
    | zero => simp at ho'; subst ho'; simp
    | succ i =>
      simp only [List.getElem?_cons_succ] at ho' ⊢
      rw [h3 i o' ho']
      simp
theorem backOk_spec : ∀ (os : List Oper) (k : Nat), backOk os k = true → ∀ i o, os[i]? = some o → ∀ e ∈ o.after, Region.binds .any e = true → e.on < k + i
  | [], _, _, i, o, h => by simp at h
  | o :: os, k, hb, i, o', h => by
    simp only [backOk, Bool.and_eq_true, List.all_eq_true, Bool.or_eq_true, Bool.not_eq_true', decide_eq_true_eq] at hb
    cases i with
    | zero =>
      simp at h; subst h
      intro e he hbd
      rcases hb.1 e (by simpa using he) with h1 | h1
      · rw [hbd] at h1; cases h1
      · exact h1
    | succ i =>
      intro e he hbd
      have := backOk_spec os (k + 1) hb.2 i o' (by simpa using h) e he hbd
      omega
theorem ahead_spec {opsA : Array Oper} (hb : backOk opsA.toList 0 = true) (j k : Nat) (h : ahead (mkMasks opsA.toList []) j k = true) :
    ∃ o, opsA[k]? = some o ∧ ∃ e ∈ o.after, Region.binds .any e = true ∧ (e.on = j ∨ ahead (mkMasks opsA.toList []) j e.on = true) := by
  obtain ⟨R, h1, h2, h3⟩ := mkMasks_spec opsA.toList []
  rw [h1] at h ⊢
  simp only [List.nil_append] at h h3 ⊢
  unfold ahead at h ⊢
  cases ho : opsA[k]? with
  | none =>
    have hk : opsA.size ≤ k := by
      rcases Nat.lt_or_ge k opsA.size with h4 | h4
      · rw [Array.getElem?_eq_getElem h4] at ho; cases ho
      · exact h4
    rw [List.getD_eq_getElem?_getD, List.getElem?_eq_none (by rw [h2]; simpa using hk)] at h
    simp at h
  | some o =>
    have ho' : opsA.toList[k]? = some o := by simpa using ho
    rw [List.getD_eq_getElem?_getD, h3 k o ho'] at h
    simp only [Option.getD_some, mkMask] at h
    rcases testBit_foldl _ _ h with h4 | ⟨e, h4, h5⟩
    · simp at h4
    · rw [List.mem_filter] at h4
      refine ⟨o, rfl, e, by simpa using h4.1, h4.2, h5.imp id fun h6 => ?_⟩
      have hlt := backOk_spec _ _ hb k o ho' e (by simpa using h4.1) h4.2
      rw [List.getD_eq_getElem?_getD, List.getElem?_take_of_lt (by omega)] at h6
      rw [List.getD_eq_getElem?_getD]
      exact h6
def memN (x : Nat) : List Nat → Bool
  | [] => false
  | y :: l => match Nat.beq x y with | true => true | false => memN x l
theorem memN_iff {x : Nat} : ∀ {l : List Nat}, memN x l = true ↔ x ∈ l
  | [] => by simp [memN]
  | y :: l => by
    simp only [memN]
    split
    · rename_i h; simp [Nat.eq_of_beq_eq_true h]
    · rename_i h
      have : x ≠ y := fun e => by subst e; rw [Nat.beq_refl] at h; cases h
      rw [memN_iff (l := l)]; simp [this]
def disj : List Nat → List Nat → Bool
  | [], _ => true
  | x :: l, m => match memN x m with | true => false | false => disj l m
theorem disj_spec : ∀ {l m : List Nat}, disj l m = true → ∀ x ∈ l, x ∉ m
  | [], _, _, x, h => by simp at h
  | y :: l, m, h, x, hx => by
    simp only [disj] at h
    split at h
    · cases h
    · rename_i hn
      rcases List.mem_cons.1 hx with rfl | hx
      · intro hm; rw [memN_iff.2 hm] at hn; cases hn
      · exact disj_spec h x hx
def fpAfter (M : List Nat) (j : Nat) (p : Bool × List Nat) : Nat → List (Bool × List Nat) → Bool
  | _, [] => true
  | k, i :: is => match p.2 with
    | [] => true
    | _ => match p.1, i.1 with
      | true, true => fpAfter M j p (k + 1) is
      | _, _ => match disj p.2 i.2 with
        | true => fpAfter M j p (k + 1) is
        | false => match ahead M j k with
          | true => fpAfter M j p (k + 1) is
          | false => false
def fpAll (M : List Nat) : Nat → List (Bool × List Nat) → Bool
  | _, [] => true
  | j, p :: ps => match fpAfter M j p (j + 1) ps with
    | true => fpAll M (j + 1) ps
    | false => false
theorem ssaPair_spec {p i : LIns} (h : ssaPair p i = true) : (∀ d, p.dst = some d → d ∉ i.reads ∧ i.dst ≠ some d) ∧ ∀ d, i.dst = some d → d ∉ p.reads := by
  simp only [ssaPair, Bool.and_eq_true] at h
  refine ⟨fun d hd => ?_, fun d hd => ?_⟩
  · rw [hd] at h
    simp only [Bool.and_eq_true, Bool.not_eq_true', bne_iff_ne, ne_eq] at h
    exact ⟨by simpa using h.1.1, h.1.2⟩
  · rw [hd] at h
    simpa using h.2
theorem ssaAfter_spec {M : List Nat} {j : Nat} {p : LIns} : ∀ (l : List LIns) (k : Nat), ssaAfter M j p k l = true → ∀ i q, l[i]? = some q → ahead M j (k + i) = true ∨ ssaPair p q = true
  | [], _, _, i, q, h => by simp at h
  | x :: l, k, hs, i, q, h => by
    simp only [ssaAfter, Bool.and_eq_true, Bool.or_eq_true] at hs
    cases i with
    | zero => simp at h; subst h; exact hs.1
    | succ i =>
      have := ssaAfter_spec l (k + 1) hs.2 i q (by simpa using h)
      rwa [Nat.add_right_comm] at this
theorem fpAfter_spec {M : List Nat} {j : Nat} {p : Bool × List Nat} : ∀ (l : List (Bool × List Nat)) (k : Nat), fpAfter M j p k l = true → ∀ i q, l[i]? = some q → ahead M j (k + i) = true ∨ (p.1 = true ∧ q.1 = true) ∨ ∀ x ∈ p.2, x ∉ q.2
  | [], _, _, i, q, h => by simp at h
  | x :: l, k, hs, i, q, h => by
    unfold fpAfter at hs
    split at hs
    · rename_i hp; exact .inr (.inr (fun x hx => by rw [hp] at hx; simp at hx))
    · have key : fpAfter M j p (k + 1) l = true ∧ (ahead M j k = true ∨ (p.1 = true ∧ x.1 = true) ∨ ∀ y ∈ p.2, y ∉ x.2) := by
        split at hs
        · rename_i h1 h2; exact ⟨hs, .inr (.inl ⟨h1, h2⟩)⟩
        · split at hs
          · rename_i hd; exact ⟨hs, .inr (.inr (disj_spec hd))⟩
          · split at hs
            · rename_i ha; exact ⟨hs, .inl ha⟩
            · cases hs
      cases i with
      | zero => simp at h; subst h; exact key.2
      | succ i =>
        have := fpAfter_spec l (k + 1) key.1 i q (by simpa using h)
        rwa [Nat.add_right_comm] at this
theorem pairs_spec {M : List Nat} : ∀ (rs : List Rec) (j : Nat), (∀ r ∈ rs, r.rd = true → r.σ1 = r.σ0) → ssaAll M j (rs.map Rec.ins) = true → fpAll M j (rs.map Rec.fp) = true → (rs.zipIdx j).Pairwise fun p q => ahead M p.2 q.2 = true ∨ Indep p.1 q.1
  | [], _, _, _, _ => by simp
  | r :: rs, j, hrd, hs, hf => by
    simp only [List.map_cons, ssaAll, Bool.and_eq_true, fpAll] at hs hf
    rw [List.zipIdx_cons, List.pairwise_cons]
    have hf1 : fpAfter M j r.fp (j + 1) (rs.map Rec.fp) = true := by
      split at hf
      · assumption
      · cases hf
    have hf2 : fpAll M (j + 1) (rs.map Rec.fp) = true := by
      split at hf
      · exact hf
      · cases hf
    refine ⟨fun q hq => ?_, pairs_spec rs (j + 1) (fun q hq => hrd q (by simp [hq])) hs.2 hf2⟩
    obtain ⟨q, k⟩ := q
    obtain ⟨h1, h2, h3⟩ := List.mem_zipIdx hq
    have hq' : rs[k - (j + 1)]? = some q := by rw [h3]; exact List.getElem?_eq_getElem _
    have e1 := ssaAfter_spec (rs.map Rec.ins) (j + 1) hs.1 (k - (j + 1)) q.ins (by simp [hq'])
    have e2 := fpAfter_spec (rs.map Rec.fp) (j + 1) hf1 (k - (j + 1)) q.fp (by simp [hq'])
    rw [show j + 1 + (k - (j + 1)) = k by omega] at e1 e2
    rcases e1 with e1 | e1
    · exact .inl e1
    · rcases e2 with e2 | e2 | e2
      · exact .inl e2
      · exact .inr ⟨(ssaPair_spec e1).1, (ssaPair_spec e1).2, .inl ⟨hrd r (by simp) e2.1, hrd q (by simp [List.mem_of_getElem? hq']) e2.2⟩⟩
      · exact .inr ⟨(ssaPair_spec e1).1, (ssaPair_spec e1).2, .inr e2⟩
inductive Tr (P : Program) (N base : Nat) : List LIns → List (Nat × V) → Store → Nat → List Rec → List (Nat × V) → Store → Nat → Prop
  | nil (env : List (Nat × V)) (σ : Store) (nx : Nat) : Tr P N base [] env σ nx [] env σ nx
  | step {i : LIns} {rest : List LIns} {env env' : List (Nat × V)} {σ σ0 σ1 σ' : Store} {nx lo hi nx' : Nat} {v : V} {rs : List Rec} (hv : VStep P N base i lo hi env σ0 v σ1) (hs : Sub σ0 σ) (hlo : nx ≤ lo) (hhi : lo ≤ hi) (rd : Bool) (hrd : rd = true → σ1 = σ0)
      (h : Tr P N base rest (putE env i.dst v) (app σ0 σ1 σ) hi rs env' σ' nx') : Tr P N base (i :: rest) env σ nx (⟨i, lo, hi, env, σ0, v, σ1, rd⟩ :: rs) env' σ' nx'
  | know {ops : List LIns} {env env' : List (Nat × V)} {σ σ' : Store} {nx nx' : Nat} {rs : List Rec} (t : Nat) (b : Bool) (h : lk env t = vbl b) (h' : Tr P N base ops ((t, if b then .c .tru else .c .fls) :: env) σ nx rs env' σ' nx') : Tr P N base ops env σ nx rs env' σ' nx'
section
variable {P : Program} {N base : Nat}
theorem ri_bool (b : Bool) : RI (vbl b) (if b then .c .tru else .c .fls) := fun Γ w u h => by
  rw [h.bool]
  cases b <;> exact .c _ _ rfl
theorem Tr.ins {ops : List LIns} {env env' : List (Nat × V)} {σ σ' : Store} {nx nx' : Nat} {rs : List Rec} (h : Tr P N base ops env σ nx rs env' σ' nx') : rs.map Rec.ins = ops := by
  induction h with
  | nil => rfl
  | step _ _ _ _ _ _ _ ih => simp [ih]
  | know _ _ _ _ ih => exact ih
theorem Tr.rd {ops : List LIns} {env env' : List (Nat × V)} {σ σ' : Store} {nx nx' : Nat} {rs : List Rec} (h : Tr P N base ops env σ nx rs env' σ' nx') : ∀ r ∈ rs, r.rd = true → r.σ1 = r.σ0 := by
  induction h with
  | nil => intro r hr; cases hr
  | step hv hs hlo hhi rd hrd _ ih =>
    intro r hr
    rcases List.mem_cons.1 hr with rfl | hr
    · exact hrd
    · exact ih r hr
  | know _ _ _ _ ih => exact ih
theorem Tr.le {ops : List LIns} {env env' : List (Nat × V)} {σ σ' : Store} {nx nx' : Nat} {rs : List Rec} (h : Tr P N base ops env σ nx rs env' σ' nx') : nx ≤ nx' ∧ ∀ r ∈ rs, nx ≤ r.lo ∧ r.hi ≤ nx' := by
  induction h with
  | nil => exact ⟨Nat.le_refl _, fun r hr => by cases hr⟩
  | step hv hs hlo hhi _ _ h ih =>
    refine ⟨by have := ih.1; omega, fun r hr => ?_⟩
    rcases List.mem_cons.1 hr with rfl | hr
    · exact ⟨hlo, ih.1⟩
    · have := ih.2 r hr
      exact ⟨by omega, this.2⟩
  | know _ _ _ _ ih => exact ih
theorem Tr.names {ops : List LIns} {env env' : List (Nat × V)} {σ σ' : Store} {nx nx' : Nat} {rs : List Rec} (h : Tr P N base ops env σ nx rs env' σ' nx') : rs.Pairwise fun p q => p.hi ≤ q.lo := by
  induction h with
  | nil => exact List.Pairwise.nil
  | step hv hs hlo hhi _ _ h ih => exact List.pairwise_cons.2 ⟨fun r hr => (h.le.2 r hr).1, ih⟩
  | know _ _ _ _ ih => exact ih
theorem Tr.valid {ops : List LIns} {env env' : List (Nat × V)} {σ σ' : Store} {nx nx' : Nat} {rs : List Rec} (h : Tr P N base ops env σ nx rs env' σ' nx') : ∀ r ∈ rs, VStep P N base r.ins r.lo r.hi r.env r.σ0 r.v r.σ1 := by
  induction h with
  | nil => exact fun r hr => by cases hr
  | step hv hs hlo hhi _ _ h ih =>
    intro r hr
    rcases List.mem_cons.1 hr with rfl | hr
    · exact hv
    · exact ih r hr
  | know _ _ _ _ ih => exact ih
theorem Tr.T {ops : List LIns} {env env' : List (Nat × V)} {σ σ' : Store} {nx nx' : Nat} {rs : List Rec} (h : Tr P N base ops env σ nx rs env' σ' nx') : ∀ envc, (∀ t, RI (lk envc t) (lk env t)) → Pw.T env' σ' rs envc σ := by
  induction h with
  | nil => exact fun envc he => ⟨he, fun _ => rfl⟩
  | step hv hs hlo hhi _ _ h ih =>
    intro envc he
    refine ⟨fun t _ => he t, hs, ih _ fun t => ?_⟩
    rw [lk_putE, lk_putE]
    split
    · exact RI.refl _
    · exact he t
  | know t b h h' ih =>
    intro envc he
    refine ih envc fun t' => ?_
    rw [lk_cons]
    split
    · rename_i ht
      subst ht
      intro Γ w u hr
      have := he t Γ w u hr
      rw [h] at this
      exact ri_bool b Γ w u this
    · exact he t'
theorem low_regionD {own : List Nat} {code : Code} {ops : List LIns} {M ks : List Nat} (h : lowCode P N own code = some (.regionD ops M ks)) :
    ∃ id opsA, code = .region id opsA true ∧ lowList P N own opsA opsA.toList = some ops ∧ M = mkMasks opsA.toList [] ∧ backOk opsA.toList 0 = true ∧ ssaAll M 0 ops = true := by
  cases code with
  | region id opsA draw =>
    simp only [lowCode, Option.bind_eq_bind, Option.bind_eq_some_iff] at h
    obtain ⟨l, hl, h⟩ := h
    cases draw with
    | true =>
      simp only [if_true] at h
      split at h
      · rename_i hc
        cases h
        simp only [Bool.and_eq_true] at hc
        exact ⟨id, opsA, rfl, hl, rfl, hc.1, hc.2⟩
      · cases h
    | false =>
      simp only [Bool.false_eq_true, if_false, Option.some.injEq] at h
      cases h
  | _ => simp [lowCode, Option.bind_eq_some_iff] at h
theorem lowList_get {own : List Nat} {opsA : Array Oper} : ∀ (os : List Oper) (l : List LIns), lowList P N own opsA os = some l → l.length = os.length ∧ ∀ (j : Nat) (i : LIns), l[j]? = some i → ∃ o, os[j]? = some o ∧ lowIns P N own opsA o = some i
  | [], l, h => by simp [lowList] at h; subst h; exact ⟨rfl, fun j i h => by simp at h⟩
  | o :: os, l, h => by
    simp only [lowList, Option.bind_eq_bind, Option.bind_eq_some_iff, Option.some.injEq] at h
    obtain ⟨i, hi, r, hr, rfl⟩ := h
    obtain ⟨h1, h2⟩ := lowList_get os r hr
    refine ⟨by simp [h1], fun j i' hj => ?_⟩
    cases j with
    | zero => simp at hj; subst hj; exact ⟨o, by simp, hi⟩
    | succ j => simpa using h2 j i' (by simpa using hj)
theorem RepV.heap {Γ : Cx} {w w' : World} {v : V} {u : Value} (h : RepV Γ w v u) (hh : w'.heap = w.heap) : RepV Γ w' v u := h.mono (CxLe.refl _) (fun k _ => by rw [hh])
theorem Conc.heap {B0 : Nat} {Γ : Cx} {w w' : World} {a : Act} {st : St} (h : Conc N B0 base Γ w st a) (hh : w'.heap = w.heap) : Conc N B0 base Γ w' st a := by
  refine ⟨h.size, fun t => (h.env t).heap hh, h.ok.keep (CxLe.refl _) (fun k hk => by rw [hh]; exact h.ok.im k hk) (fun k _ => by rw [hh]) (fun k _ => by rw [hh]) (fun k hl hI => h.ok.not_live hI hl), h.free, h.le, ?_⟩
  obtain ⟨Ds, h1, h2, h3⟩ := h.dfs
  exact ⟨Ds, h1, ⟨h2.1, by rw [hh]; exact h2.2⟩, fun D hD => by rw [hh]; exact h3 D hD⟩
theorem Ext.drew {Γ0 Γ : Cx} {w0 w : World} {σ0 σ : Store} (h : Ext base Γ0 w0 σ0 Γ w σ) (n : Nat) : Ext base Γ0 w0 σ0 Γ { w with drawn := n } σ :=
  ⟨h.os, h.tape, h.output, h.size, h.im, h.new, h.ρ, h.κ, h.keep, h.live⟩
/-- A region that draws its order of evaluation: walked in the text's order. -/
theorem Sat.regionD {ops : List LIns} {M ks : List Nat} {st : St} {Q : Exit → St → Prop} {rs : List Rec} {env' : List (Nat × V)} {σ' : Store} {nx' : Nat} (hm : P.follows .mixedOrders = true)
    (h : Tr P N base ops st.env st.σ st.nx rs env' σ' nx') (hf : fpAll M 0 (rs.map Rec.fp) = true) (hQ : Q .normal ⟨env', σ', nx'⟩) : Sat P N base (.regionD ops M ks) st Q := by
  intro ro n B0 own code hro hl Γ0 Γ w0 w σ0 a hc hext
  obtain ⟨id, opsA, rfl, hlow, hM, hb, hssa⟩ := low_regionD hl
  refine wpIn_region_any hm ?_
  obtain ⟨hlen, hget⟩ := lowList_get opsA.toList ops hlow
  have hins := h.ins
  have hrl : rs.length = opsA.size := by
    have := congrArg List.length hins
    simp only [List.length_map] at this
    rw [this, hlen]; simp
  have hmem : ∀ j r, (j, r) ∈ (rs.zipIdx.map fun p => (p.2, p.1)) ↔ rs[j]? = some r := fun j r => by
    simp only [List.mem_map, Prod.mk.injEq, Prod.exists]
    constructor
    · rintro ⟨r', j', h1, rfl, rfl⟩
      exact List.mem_zipIdx_iff_getElem?.1 h1
    · intro h1
      exact ⟨r, j, List.mem_zipIdx_iff_getElem?.2 h1, rfl, rfl⟩
  have hmemr : ∀ j r, (j, r) ∈ (rs.zipIdx.map fun p => (p.2, p.1)) → r ∈ rs := fun j r hj => List.mem_of_getElem? ((hmem j r).1 hj)
  have hconc : Conc N B0 base Γ { w with drawn := w.drawn + 1 } ⟨st.env, st.σ, nx'⟩ a := by
    have hc' := hc.heap (w' := { w with drawn := w.drawn + 1 }) rfl
    exact ⟨hc'.size, hc'.env, hc'.ok, fun id hid => hc'.free id (Nat.le_trans h.le.1 hid), Nat.le_trans hc'.le h.le.1, hc'.dfs⟩
  have hpair := pairs_spec (M := M) rs 0 h.rd (by rw [hins]; exact hssa) hf
  have hmono : wpAnyIn (FW ro) n P .any opsA (Post N B0 base Γ0 w0 σ0 fun e st' => e = .normal ∧ st' = ⟨env', σ', nx'⟩) opsA.size (Array.replicate opsA.size false) a { w with drawn := w.drawn + 1 } :=
    sched (A := ahead M) (own := own) (envF := env') (σF := σ') (nxe := nx') (base := base) (N := N)
      (fun k o ho e he hbd => by have := backOk_spec _ _ hb k o (by simpa using ho) e he hbd; omega)
      (fun j k hj => by rw [hM] at hj ⊢; exact ahead_spec hb j k hj)
      opsA.size _ (rs.zipIdx.map fun p => (p.2, p.1)) st.env st.σ Γ a _ (by simp)
      (fun j => by
        constructor
        · rintro ⟨r, hr⟩
          have := (List.getElem?_eq_some_iff.1 ((hmem j r).1 hr)).1
          rw [Array.getD_eq_getD_getElem?, Array.getElem?_replicate, if_pos (by omega)]; rfl
        · intro hj
          rw [Array.getD_eq_getD_getElem?, Array.getElem?_replicate] at hj
          split at hj
          · rename_i hlt
            have hlt' : j < rs.length := by omega
            exact ⟨rs[j], (hmem j _).2 (List.getElem?_eq_getElem hlt')⟩
          · cases hj)
      (by
        rw [List.pairwise_map]
        have := List.pairwise_iff_getElem (R := fun p q : Rec × Nat => p.2 < q.2) (l := rs.zipIdx)
        rw [this]
        intro i j hi hj hij
        simp only [List.getElem_zipIdx]
        omega)
      (fun j r hj => by
        have h1 := (hmem j r).1 hj
        have h2 : ops[j]? = some r.ins := by rw [← hins]; simp [h1]
        obtain ⟨o, ho, hlo⟩ := hget j r.ins h2
        exact ⟨o, by simpa using ho, hlo⟩)
      (fun j r hj => by
        have hr := hmemr j r hj
        exact ⟨h.valid r hr, Nat.le_trans hc.le (h.le.2 r hr).1, (h.le.2 r hr).2⟩)
      (by rw [List.pairwise_map]; exact hpair)
      (by
        rw [List.pairwise_map]
        have h1 := h.names
        have h2 := List.pairwise_iff_getElem (R := fun p q : Rec × Nat => p.1.hi ≤ q.1.lo) (l := rs.zipIdx)
        rw [h2]
        intro i j hi hj hij
        simp only [List.getElem_zipIdx]
        exact (List.pairwise_iff_getElem.1 h1) i j _ _ hij)
      (fun j r hj id h1 h2 => hc.free id (Nat.le_trans (h.le.2 r (hmemr j r hj)).1 h1))
      (fun j k _ hk hks => by
        rw [Array.getD_eq_getD_getElem?, Array.getElem?_replicate, if_pos hks] at hk
        cases hk)
      (by
        rw [List.map_map]
        have : (rs.zipIdx.map (Prod.snd ∘ fun p : Rec × Nat => (p.2, p.1))) = rs := by
          have h3 : (Prod.snd ∘ fun p : Rec × Nat => (p.2, p.1)) = Prod.fst := rfl
          rw [h3]; simp
        rw [this]
        exact h.T _ fun t => RI.refl _)
      hconc (hext.drew _) (by simp [hrl])
  -- the posts alone differ
  have key : ∀ (fuel : Nat) (listed : Array Bool) (a : Act) (w : World), wpAnyIn (FW ro) n P .any opsA (Post N B0 base Γ0 w0 σ0 fun e st' => e = .normal ∧ st' = ⟨env', σ', nx'⟩) fuel listed a w →
      wpAnyIn (FW ro) n P .any opsA (Post N B0 base Γ0 w0 σ0 Q) fuel listed a w := by
    have hpost : ∀ e a w, Post N B0 base Γ0 w0 σ0 (fun e st' => e = .normal ∧ st' = ⟨env', σ', nx'⟩) e a w → Post N B0 base Γ0 w0 σ0 Q e a w := fun e a w ⟨Γ', st', h1, h2, h3, h4⟩ => ⟨Γ', st', h1, h2, by subst h3; subst h4; exact hQ⟩
    have hop : ∀ (i : Nat) (K K' : Act → World → Prop) (a : Act) (w : World), (∀ a w, K a w → K' a w) → wpOpIn (FW ro) n P opsA (Post N B0 base Γ0 w0 σ0 fun e st' => e = .normal ∧ st' = ⟨env', σ', nx'⟩) i K a w → wpOpIn (FW ro) n P opsA (Post N B0 base Γ0 w0 σ0 Q) i K' a w := fun i K K' a w hk hh => by
      unfold wpOpIn at hh ⊢
      split
      · rename_i ho; rw [ho] at hh; exact hk _ _ hh
      · rename_i o ho
        rw [ho] at hh
        simp only at hh
        split
        · rename_i hw
          rw [if_pos hw] at hh
          refine ⟨hh.1, ?_⟩
          have hh := hh.2
          generalize (o.semAt (FW ro).round a.eval).run P w = r at *
          cases r with
          | ok x w' =>
            cases x <;> simp only [Oper.uponIn] at hh ⊢ <;>
              first
                | exact hk _ _ hh
                | exact ⟨hh.1, CallsIn.mono hh.2 (fun e w'' he => by cases e <;> first | exact hk _ _ he | exact hpost _ _ _ he | (obtain ⟨a1, w1, hq⟩ := he; exact ⟨a1, w1, hpost _ _ _ hq⟩))⟩
                | exact ⟨hh.1, RowsIn.mono hh.2 (fun _ _ he => hk _ _ he)⟩
                | exact ⟨hh.1, RoundIn.mono hh.2 (fun e w'' he => by cases e <;> first | exact hk _ _ he | exact hpost _ _ _ he | (obtain ⟨a1, w1, hq⟩ := he; exact ⟨a1, w1, hpost _ _ _ hq⟩))⟩
          | halt x w' => cases x <;> simp only [Oper.uponIn] at hh ⊢ <;> exact hpost _ _ _ hh
        · rename_i hw
          rw [if_neg hw] at hh
          exact ⟨hh.1, hk _ _ hh.2⟩
    intro fuel
    induction fuel with
    | zero => intro listed a w h; exact ⟨h.1, hpost _ _ _ h.2⟩
    | succ fuel ih => intro listed a w h; exact ⟨fun hr => hpost _ _ _ (h.1 hr), fun i hi => hop i _ _ a w (fun a w => ih _ a w) (h.2 i hi)⟩
  exact key _ _ _ _ hmono
end
end Go.Pw

namespace Go.Pw
open Go Go.RowKit
def Ent1 (P : Program) (f : FuncId) : Prop := ∀ (args : Array Value) (w : World), (callFunc f args).run P w = .ok (.enter f args) w
def RepL (Γ : Cx) (w : World) (args : List V) (us : Array Value) : Prop := us.size = args.length ∧ ∀ (i : Nat) v u, args[i]? = some v → us[i]? = some u → RepV Γ w v u
/-- Function f, called with these data at this store, returns v; the store is then σ'; names from nx to nx'. -/
def CallD (P : Program) (f : FuncId) (args : List V) (σ : Store) (nx : Nat) (v : V) (σ' : Store) (nx' : Nat) : Prop :=
  Ent1 P f ∧ nx ≤ nx' ∧ ∀ (Γ : Cx) (w : World) (us : Array Value), StoreOk Γ w σ → (∀ id, nx ≤ id → id < nx' → Γ.ρ id = none) → RepL Γ w args us →
    Calls P f us w fun e w' => ∃ u Γ', e = .returned u ∧ RepV Γ' w' v u ∧ StoreOk Γ' w' σ' ∧ CxLe Γ Γ' ∧ (∀ id, ¬ (nx ≤ id ∧ id < nx') → Γ'.ρ id = Γ.ρ id ∧ Γ'.κ id = Γ.κ id) ∧ Ext 0 Γ w σ Γ' w' σ'
/-- A function of data alone. -/
structure PFD (P : Program) (f : FuncId) (args : List V) (v : V) : Prop where
  h : CallD P f args [] 0 v [] 0
theorem PFD.at {P : Program} {f : FuncId} {args : List V} {v : V} (h : PFD P f args v) (nx : Nat) : CallD P f args [] nx v [] nx := by
  refine ⟨h.h.1, Nat.le_refl _, fun Γ w us hst _ hr => ?_⟩
  refine (h.h.2.2 Γ w us hst (fun id _ h2 => absurd h2 (Nat.not_lt_zero _)) hr).mono (fun e w' ⟨u, Γ', h1, h2, h3, h4, h5, h6⟩ => ⟨u, Γ', h1, h2, h3, h4, fun id _ => h5 id (by omega), h6⟩)
inductive RIs : List V → List V → Prop
  | nil : RIs [] []
  | cons {x y : V} {xs ys : List V} (h : RI x y) (t : RIs xs ys) : RIs (x :: xs) (y :: ys)
theorem RIs.length {xs ys : List V} (h : RIs xs ys) : xs.length = ys.length := by
  induction h with
  | nil => rfl
  | cons _ _ ih => simp [ih]
theorem RIs.get {xs ys : List V} (h : RIs xs ys) : ∀ {i : Nat} {y : V}, ys[i]? = some y → ∃ x, xs[i]? = some x ∧ RI x y := by
  induction h with
  | nil => intro i y h; simp at h
  | cons h t ih =>
    intro i y hy
    cases i with
    | zero => simp at hy; subst hy; exact ⟨_, rfl, h⟩
    | succ i => exact ih (by simpa using hy)
theorem RIs.rep {Γ : Cx} {w : World} {xs ys : List V} {us : Array Value} (h : RIs xs ys) (hr : RepL Γ w xs us) : RepL Γ w ys us := by
  refine ⟨by rw [hr.1, h.length], fun i v u hv hu => ?_⟩
  obtain ⟨x, hx, hxy⟩ := h.get hv
  exact hxy Γ w u (hr.2 i x u hx hu)
section
variable {P : Program} {N base : Nat} {i : LIns}
theorem run_call {ρ : Operand → Value} {o : Oper} {c : Call} {fop : Operand} {f : FuncId} {caps : Array Value} {w : World} (he : Ent1 P f) (ho : o.op = .call c) (hc : c.callee = .value fop) (hf : ρ fop = .func (.func f) #[] caps) :
    (execOp ρ o).run P w = .ok (.enter f (c.args.map ρ ++ caps)) w := by
  have h1 : (resolve ρ c o.type).run P w = .ok { target := .fn (.func f) caps, args := c.args.map ρ } w := by
    unfold resolve
    simp only [hc, hf, Deferred.ofValue]
    simp
  unfold execOp
  simp only [ho, Sem.run_bind, h1, Result.andThen_ok, invoke]
  exact he _ _
theorem Calls.fw {ro : Option Nat} {n : Nat} {f : FuncId} {args : Array Value} {w : World} {R : Ending → World → Prop} (h : Calls P f args w R) : CallsIn (FW ro) n P f args w R := by
  have h1 : CallsIn Fence.wide n P f args w R := callsIn_wide.2 h
  cases ro with
  | none => exact h1
  | some l => exact h1
theorem VStep.call {env : List (Nat × V)} {σ0 σ1 : Store} {lo hi : Nat} {v : V} {f : FuncId} {ids : List Nat} {fop : Operand} {xs : List Operand} {args : List V} (hg : guardOf env i.guard = .run) (hop : i.op = .call fop xs)
    (hf : evo env fop = .c (.fn f ids)) (hargs : RIs (xs.map (evo env) ++ ids.map fun k => .c (.bp k 0)) args) (h : CallD P f args σ0 lo v σ1 hi) : VStep P N base i lo hi env σ0 v σ1 := by
  intro ro n B0 own opsA o hi' Γ w a env' σ nxe hc hre hsub hfr hhi hbase K Q hK
  obtain ⟨⟨b, hop'⟩, hdst, hdN, hgd⟩ := lowIns_some hi'
  have hc2 := hc.relab (env := env) (l := i.reads) hre
  have hev : ∀ x ∈ i.op.opnds, evo env x = evo (Pw.relab env env' i.reads) x := fun x hx => (evo_relab (reads_opnd hx)).symm
  have hgr : guardOf (Pw.relab env env' i.reads) i.guard = .run := by
    rw [← hg]
    refine guardOf_congr (fun t b hgt => ?_)
    rw [lk_relab, if_pos (reads_guard hgt)]
  obtain ⟨c, hoc, hcal, hxs⟩ := low_call (hop' ▸ hop : lowOp P b o = .call fop xs)
  have hfr' : RepV Γ w (.c (.fn f ids)) (a.eval fop) := by
    have := hc2.ev fop
    rw [← hev fop (by rw [hop]; simp [LOp.opnds]), hf] at this
    exact this
  obtain ⟨bs, hbl, hbs, hfu⟩ : ∃ bs : List Nat, bs.length = ids.length ∧ (∀ (j i : Nat), ids[j]? = some i → ∃ b, Γ.ρ i = some b ∧ bs[j]? = some b) ∧ a.eval fop = .func (.func f) #[] (bs.map fun b => ptr b 0).toArray := by
    cases hfr' with | c _ _ h => exact h
  have hrun := run_call (P := P) (w := w) h.1 hoc hcal hfu
  have hrep : RepL Γ w args (c.args.map a.eval ++ (bs.map fun b => ptr b 0).toArray) := by
    refine hargs.rep ⟨by simp [hbl, ← hxs], fun j v u hv hu => ?_⟩
    by_cases hj : j < xs.length
    · rw [List.getElem?_append_left (by simpa using hj)] at hv
      have hjs : j < c.args.size := by rw [← hxs] at hj; simpa using hj
      rw [Array.getElem?_append_left (by simpa using hjs)] at hu
      simp only [List.getElem?_map, Option.map_eq_some_iff] at hv
      obtain ⟨x, hx, rfl⟩ := hv
      have hx' : c.args[j]? = some x := by rw [← hxs] at hx; simpa using hx
      simp only [Array.getElem?_map, hx', Option.map_some, Option.some.injEq] at hu
      subst hu
      rw [hev x (by rw [hop]; simp only [LOp.opnds, List.mem_cons]; exact .inr (List.mem_of_getElem? hx))]
      exact hc2.ev x
    · have hjs : c.args.size ≤ j := by have : c.args.size = xs.length := by rw [← hxs]; simp
                                       omega
      rw [List.getElem?_append_right (by simpa using hj)] at hv
      rw [Array.getElem?_append_right (by simpa using hjs)] at hu
      have e1 : c.args.size = xs.length := by rw [← hxs]; simp
      simp only [List.length_map, List.getElem?_map, Option.map_eq_some_iff] at hv
      obtain ⟨k, hk, rfl⟩ := hv
      obtain ⟨b, hb, hb'⟩ := hbs _ k hk
      simp only [Array.size_map, e1, List.getElem?_toArray, List.getElem?_map, hb', Option.map_some, Option.some.injEq] at hu
      subst hu
      exact .c _ _ ⟨b, hb, rfl⟩
  have hw : Region.wanted o (yielded opsA a.tmps) = true := (guardOf_run (i := i) (σ := σ) (nx := nxe) hgr).wanted hc2 hgd
  simp only [wpO, hw, if_true, Oper.wpIn]
  refine ⟨fun _ _ => trivial, ?_⟩
  rw [Oper.semAt_eq _ _ o (fun c' h' => by rw [hoc] at h'; cases h'), hrun, Oper.uponIn_enter]
  refine ⟨fun h => by simp [FW, Fence.wide] at h, Calls.fw ((h.2.2 Γ w _ (hc.ok.sub hsub) (fun id h1 h2 => hfr id h1 h2) hrep).mono ?_)⟩
  rintro e w' ⟨u, Γ', rfl, hv, hst, hle, hρ, hext0⟩
  have hext : Ext base Γ w σ0 Γ' w' σ1 := ⟨hext0.os, hext0.tape, hext0.output, hext0.size, hext0.im, hext0.new, fun id hid => (hρ id (by omega)).1, fun id hid => (hρ id (by omega)).2, hext0.keep, hext0.live⟩
  obtain ⟨hst', hext'⟩ := frame hc.ok hsub hst hle hext
  have hfree : ∀ id, nxe ≤ id → Γ'.ρ id = none := fun id hid => by
    rw [(hρ id (by omega)).1]; exact hc.free id hid
  exact hK Γ' w' (a.put o.dst u) (by rw [hdst]; exact hc.put2 hdN hv hst' hle hext' hfree) hext' (fun id hid => (hρ id hid).1)
inductive RL where
  | tmp (t : Nat)
  | cell (a : Nat) (g : Bool) (n : Nat)
def lowR (P : Program) : ResultVar → Option RL
  | .tmp t => some (.tmp t)
  | .cell a t => match aggT P t, sizeT P t with
    | some g, some n => if g || n == 1 then some (.cell a g n) else none
    | _, _ => none
def lowRs (P : Program) : List ResultVar → Option (List RL)
  | [] => some []
  | r :: rs => match lowR P r, lowRs P rs with
    | some x, some xs => some (x :: xs)
    | _, _ => none
def resOne (env : List (Nat × V)) (σ : Store) : RL → Option V
  | .tmp t => some (lk env t)
  | .cell a g n => match lk env a with
    | .c (.bp id off) => match get σ id with
      | some (.box cs) => match g with
        | true => tkc n (cs.drop off) fun l => some (.agg l)
        | false => match cs.drop off with
          | c :: _ => some (.c c)
          | [] => none
      | _ => none
    | _ => none
def resAll (env : List (Nat × V)) (σ : Store) : List RL → Option (List V)
  | [] => some []
  | r :: rs => match resOne env σ r with
    | some v => match resAll env σ rs with
      | some vs => some (v :: vs)
      | none => none
    | none => none
def retV : List V → V
  | [v] => v
  | vs => .tup vs
def resSem (tmps : Array Value) : ResultVar → Sem Value
  | .tmp t => pure (tmps.getD t undef)
  | .cell a t => do loadVar t (← asAddr (tmps.getD a undef))
theorem resOne_run {Γ : Cx} {w : World} {tmps : Array Value} {env : List (Nat × V)} {σ : Store} {r : ResultVar} {l : RL} {v : V} (hl : lowR P r = some l) (henv : ∀ t, RepV Γ w (lk env t) (tmps.getD t undef)) (hok : StoreOk Γ w σ) (hv : resOne env σ l = some v) :
    ∃ u, (resSem tmps r).run P w = .ok u w ∧ RepV Γ w v u := by
  cases r with
  | tmp t =>
    simp only [lowR, Option.some.injEq] at hl
    subst hl
    simp only [resOne, Option.some.injEq] at hv
    subst hv
    exact ⟨_, by simp [resSem], henv t⟩
  | cell a t =>
    simp only [lowR] at hl
    split at hl
    · rename_i g n hg hn
      split at hl
      · rename_i hg1
        cases hl
        simp only [resOne] at hv
        have hr := henv a
        split at hv
        · rename_i id off hlk
          rw [hlk] at hr
          obtain ⟨b, hb, hu⟩ : ∃ b, Γ.ρ id = some b ∧ tmps.getD a undef = ptr b off := by cases hr with | c _ _ h => exact h
          split at hv
          · rename_i cs hgt
            obtain ⟨b', hb', _, xs, ty, hh, hsz, hcs⟩ := hok.ok id _ hgt
            rw [hb] at hb'; cases hb'
            have hc : ∀ (j : Nat) (c : C), (cs.drop off)[j]? = some c → ∃ u, w.cell? ((⟨b, off, none⟩ : Addr).add j) = some u ∧ RepC Γ w c u := fun j c hj => by
              rw [cell_at hh]; exact hcs (off + j) c (by rw [List.getElem?_drop] at hj; exact hj)
            have hrun : (resSem tmps (.cell a t)).run P w = (loadVar t ⟨b, off, none⟩).run P w := by
              simp [resSem, hu, ptr, asAddr]
            cases g with
            | true =>
              obtain ⟨hl, hk⟩ := tkc_some _ _ _ _ hv
              simp only [Option.some.injEq] at hk
              subst hk
              obtain ⟨xs', hxl, hxg, hxr⟩ := values_of (Γ := Γ) (w := w) (cs := (cs.drop off).take n) (g := fun j => w.cell? ((⟨b, off, none⟩ : Addr).add j)) (fun j c hj => hc j c (by
                rw [List.getElem?_take] at hj; split at hj
                · exact hj
                · cases hj))
              have hxl' : xs'.length = n := by rw [hxl]; simp at hl ⊢; omega
              have := run_loadVar_cells (P := P) (w := w) (t := t) (a := ⟨b, off, none⟩) (xs := xs') hg (by rw [hxl']; exact hn) hxg (by simp)
              refine ⟨.agg xs'.toArray, ?_, .agg _ _ (by simp [hxl]) (fun i c u h1 h2 => hxr i c u h1 (by simpa using h2))⟩
              rw [hrun, this]; rfl
            | false =>
              simp only at hv
              have hn1 : n = 1 := by simpa using hg1
              subst hn1
              split at hv
              · rename_i c rest hd
                simp only [Option.some.injEq] at hv
                subst hv
                rw [hd] at hc
                obtain ⟨u, hu', hr'⟩ := hc 0 c rfl
                have := run_loadVar_cells (P := P) (w := w) (t := t) (a := ⟨b, off, none⟩) (xs := [u]) hg hn (fun j u'' hj => by
                  cases j with
                  | zero => simp at hj; subst hj; exact hu'
                  | succ j => simp at hj) (by simp)
                exact ⟨u, by rw [hrun, this]; rfl, .c _ _ hr'⟩
              · cases hv
          · cases hv
        · cases hv
      · cases hl
    · cases hl
theorem resAll_run {Γ : Cx} {w : World} {tmps : Array Value} {env : List (Nat × V)} {σ : Store} (henv : ∀ t, RepV Γ w (lk env t) (tmps.getD t undef)) (hok : StoreOk Γ w σ) : ∀ (rs : List ResultVar) (ls : List RL) (vs : List V), lowRs P rs = some ls → resAll env σ ls = some vs →
    ∃ us : List Value, (rs.mapM (resSem tmps)).run P w = .ok us w ∧ us.length = vs.length ∧ ∀ (i : Nat) v u, vs[i]? = some v → us[i]? = some u → RepV Γ w v u
  | [], ls, vs, hl, hv => by
    simp only [lowRs, Option.some.injEq] at hl
    subst hl
    simp only [resAll, Option.some.injEq] at hv
    subst hv
    exact ⟨[], by simp, rfl, fun i v u h => by simp at h⟩
  | r :: rs, ls, vs, hl, hv => by
    simp only [lowRs] at hl
    split at hl
    · rename_i x xs h1 h2
      cases hl
      simp only [resAll] at hv
      split at hv
      · rename_i v h3
        split at hv
        · rename_i vs' h4
          cases hv
          obtain ⟨u, hu, hr⟩ := resOne_run h1 henv hok h3
          obtain ⟨us, hus, hlen, hget⟩ := resAll_run henv hok rs xs vs' h2 h4
          refine ⟨u :: us, by simp [List.mapM_cons, hu, hus], by simp [hlen], fun i v' u' hv hu => ?_⟩
          cases i with
          | zero => simp at hv hu; subst hv; subst hu; exact hr
          | succ i => exact hget i v' u' (by simpa using hv) (by simpa using hu)
        · cases hv
      · cases hv
    · cases hl
theorem results_run {Γ : Cx} {w : World} {fn : Func} {tmps : Array Value} {env : List (Nat × V)} {σ : Store} {ls : List RL} {vs : List V} (henv : ∀ t, RepV Γ w (lk env t) (tmps.getD t undef)) (hok : StoreOk Γ w σ) (hl : lowRs P fn.results.toList = some ls) (hv : resAll env σ ls = some vs) :
    ∃ us : List Value, (results fn tmps).run P w = .ok (if h : us.toArray.size = 1 then us.toArray[0] else .tuple us.toArray) w ∧ us.length = vs.length ∧ ∀ (i : Nat) v u, vs[i]? = some v → us[i]? = some u → RepV Γ w v u := by
  obtain ⟨us, hus, h2, h3⟩ := resAll_run henv hok _ _ _ hl hv
  refine ⟨us, ?_, h2, h3⟩
  have this : (fn.results.mapM (resSem tmps)).run P w = .ok us.toArray w := by
    rw [Array.mapM_eq_mapM_toList]
    simp [hus]
  have e : ∀ g : ResultVar → Sem Value, g = resSem tmps → Sem.run P (do
      let vs ← fn.results.mapM g
      pure (if h : vs.size = 1 then vs[0] else .tuple vs)) w = .ok (if h : us.toArray.size = 1 then us.toArray[0] else .tuple us.toArray) w := fun g hg => by
    subst hg
    rw [Sem.run_bind, this]
    simp
  exact e _ (by funext x; cases x <;> rfl)
theorem retV_rep {Γ : Cx} {w : World} {vs : List V} {us : List Value} (h2 : us.length = vs.length) (h3 : ∀ (i : Nat) v u, vs[i]? = some v → us[i]? = some u → RepV Γ w v u) : RepV Γ w (retV vs) (if h : us.toArray.size = 1 then us.toArray[0] else .tuple us.toArray) := by
  match vs, us, h2 with
  | [v], [u], _ => simpa [retV] using h3 0 v u rfl rfl
  | [], [], _ => exact .tup _ _ rfl (fun i v u h => by simp at h)
  | a :: b :: vs, x :: y :: us, h2 =>
    have : ¬ (x :: y :: us).toArray.size = 1 := by simp
    rw [dif_neg this]
    exact .tup _ _ (by simpa using h2) (fun i v u hv hu => h3 i v u hv (by simpa using hu))
end
end Go.Pw

namespace Go.Pw
open Go Go.RowKit
section
variable {P : Program} {N base : Nat} {f : FuncId}
theorem putObj_heap_other {w : World} {k j : Nat} {o : Obj} (h : j ≠ k) : (w.putObj k o).heap[j]? = w.heap[j]? := by
  show (w.heap.setIfInBounds k o)[j]? = w.heap[j]?
  rw [Array.getElem?_setIfInBounds_ne (Ne.symm h)]
theorem leave_marks {F : Fence} {n : Nat} {fn : Func} {tmps : Array Value} {R : Ending → World → Prop} : ∀ (Ds : List Nat) (w : World), Ds.Nodup → (∀ D ∈ Ds, w.heap[D]? = some (.deferred (some []))) →
    (∀ w', w'.os = w.os → w'.tape = w.tape → w'.output = w.output → w'.heap.size = w.heap.size → (∀ k, k ∉ Ds → w'.heap[k]? = w.heap[k]?) → ∃ v, (results fn tmps).run P w' = .ok v w' ∧ R (.returned v) w') →
    LeavesInM F n P fn tmps R (Ds.map mkD) .returning w
  | [], w, _, _, h => by
    obtain ⟨v, h1, h2⟩ := h w rfl rfl rfl rfl (fun _ _ => rfl)
    exact ⟨v, h1, h2⟩
  | D :: Ds, w, hnd, hD, h => by
    obtain ⟨h1, h2⟩ := List.nodup_cons.1 hnd
    refine ⟨by simp, .inl ⟨D, w.putObj D (.deferred none), rfl, run_takeDeferred (hD D (by simp)), ?_⟩⟩
    refine leave_marks Ds _ h2 (fun D' hD' => ?_) (fun w' e1 e2 e3 e4 e5 => ?_)
    · rw [putObj_heap_other (fun e => by subst e; exact h1 hD')]; exact hD D' (by simp [hD'])
    · refine h w' e1 e2 e3 (by rw [e4]; simp [World.putObj]) (fun k hk => ?_)
      simp only [List.mem_cons, not_or] at hk
      rw [e5 k hk.2, putObj_heap_other hk.1]
/-- The slots in which the arguments lie. -/
def argEnv : Nat → List V → List (Nat × V)
  | _, [] => []
  | k, v :: vs => (k, v) :: argEnv (k + 1) vs
theorem lk_argEnv : ∀ (vs : List V) (k t : Nat), lk (argEnv k vs) t = if k ≤ t then (vs[t - k]?).getD .unk else .unk
  | [], k, t => by simp [argEnv, lk]
  | v :: vs, k, t => by
    rw [argEnv, lk_cons, lk_argEnv vs (k + 1) t]
    by_cases h : k = t
    · subst h; simp
    · rw [if_neg h]
      by_cases h2 : k ≤ t
      · have e : t - k = (t - (k + 1)) + 1 := by omega
        rw [if_pos h2, if_pos (by omega), e, List.getElem?_cons_succ]
      · rw [if_neg h2, if_neg (by omega)]
theorem repL_env {Γ : Cx} {w : World} {args : List V} {us : Array Value} {m : Nat} (h : RepL Γ w args us) (t : Nat) : RepV Γ w (lk (argEnv 0 args) t) ((us ++ Array.replicate m undef).getD t undef) := by
  rw [lk_argEnv]
  simp only [Nat.zero_le, if_true, Nat.sub_zero]
  cases hv : args[t]? with
  | none => exact .unk _
  | some v =>
    have ht : t < us.size := by rw [h.1]; exact (List.getElem?_eq_some_iff.1 hv).1
    rw [Array.getD_eq_getD_getElem?, Array.getElem?_append_left ht, Array.getElem?_eq_getElem ht]
    exact h.2 t v _ hv (Array.getElem?_eq_getElem ht)
def lowF (P : Program) (own : List Nat) (fn : Func) : Option (Nat × LCode × List RL) :=
  match fn.body with
  | none => none
  | some c => match lowCode P fn.ntmps own c, lowRs P fn.results.toList with
    | some lc, some rl => some (fn.ntmps, lc, rl)
    | _, _ => none
/-- What a function has come to when it ends: its results, in slots of their own; the store. -/
structure RetQ (nx : Nat) (rl : List RL) (vs : List V) (σ' : Store) (nx' : Nat) (e : Exit) (st : St) : Prop where
  e : e = .normal ∨ e = .ret
  h : ∃ vs0, resAll st.env st.σ rl = some vs0 ∧ vs0.length = vs.length ∧ Mv nx ⟨argEnv 0 vs0, st.σ, st.nx⟩ ⟨argEnv 0 vs, σ', nx'⟩
theorem CallD.enter {own : List Nat} {fn : Func} {lc : LCode} {rl : List RL} {args vs : List V} {σ σ' : Store} {nx nx' : Nat} (hf : P.funcs[f]? = some fn) (hent : Ent1 P f) (hlow : lowF P own fn = some (N, lc, rl)) (hN : args.length ≤ N) (hle : nx ≤ nx')
    (hin : Wk nx ⟨argEnv 0 args, σ, nx⟩ ⟨argEnv 0 args, σ, nx⟩ id) (h : Sat P N nx lc ⟨argEnv 0 args, σ, nx⟩ (RetQ nx rl vs σ' nx')) : CallD P f args σ nx (retV vs) σ' nx' := by
  obtain ⟨code, hb, hlc, hrl, hNt⟩ : ∃ code, fn.body = some code ∧ lowCode P N own code = some lc ∧ lowRs P fn.results.toList = some rl ∧ fn.ntmps = N := by
    unfold lowF at hlow
    split at hlow
    · cases hlow
    · rename_i c hc
      split at hlow
      · rename_i h1 h2
        cases hlow
        exact ⟨c, hc, h1, h2, rfl⟩
      · cases hlow
  refine ⟨hent, hle, fun Γ w us hst hfr hrep => ?_⟩
  refine callsIn_wide.1 (callsIn_of_wp_marks (n := 0) hf hb trivial ?_)
  -- the state at the head, the names from nx on forgotten
  let a0 : Act := { tmps := us ++ Array.replicate (fn.ntmps - us.size) undef, defers := [] }
  obtain ⟨hc0, hext0⟩ := weaken_core (N := N) (B0 := w.heap.size) (base := nx) (Γ := Γ) (w := w) (a := a0) (st := ⟨argEnv 0 args, σ, nx⟩) (st0 := ⟨argEnv 0 args, σ, nx⟩) (π := id)
    (by simp only [a0, Array.size_append, Array.size_replicate, hrep.1, hNt]; omega) (fun t => repL_env hrep t) hst ⟨[], rfl, ⟨List.nodup_nil, Nat.le_refl _⟩, fun D hD => by cases hD⟩ hin
  let Γ0 := Γ.ren id nx
  have hle0 : CxLe Γ0 Γ := ⟨fun _ h => h, fun i b hb => (by
    simp only [Γ0, Cx.ren] at hb
    split at hb
    · exact hb
    · cases hb), fun i b _ => rfl⟩
  have hlow0 : ∀ i, i < nx → Γ0.ρ i = Γ.ρ i := fun i hi => by simp [Γ0, Cx.ren, hi]
  have hfin : ∀ (e : Exit) (a' : Act) (w1 : World), Post N w.heap.size nx Γ0 w σ (RetQ nx rl vs σ' nx') e a' w1 → (e = .normal ∨ e = .ret) ∧ LeavesInM Fence.wide 0 P fn a'.tmps
      (fun e w' => ∃ u Γ', e = .returned u ∧ RepV Γ' w' (retV vs) u ∧ StoreOk Γ' w' σ' ∧ CxLe Γ Γ' ∧ (∀ id, ¬ (nx ≤ id ∧ id < nx') → Γ'.ρ id = Γ.ρ id ∧ Γ'.κ id = Γ.κ id) ∧ Ext 0 Γ w σ Γ' w' σ') a'.defers .returning w1 := by
    rintro e a' w1 ⟨Γ1, st1, hc1, hext1, ⟨he, vs0, hres, hlen, hmv⟩⟩
    refine ⟨he, ?_⟩
    obtain ⟨Ds, hDs, hnd, hD⟩ := hc1.dfs
    rw [hDs]
    refine leave_marks Ds w1 hnd.1 (fun D hD' => (hD D hD').2.2.2) (fun w2 e1 e2 e3 e4 e5 => ?_)
    -- the marks are taken: nothing that is anyone's turns
    have hI : ∀ k, Γ1.I k → w2.heap[k]? = w1.heap[k]? := fun k hk => e5 k (fun hm => (hD k hm).2.1 hk)
    have hL : ∀ k, Live Γ1 st1.σ k → w2.heap[k]? = w1.heap[k]? := fun k hk => e5 k (fun hm => (hD k hm).2.2.1 hk)
    have hok2 : StoreOk Γ1 w2 st1.σ := hc1.ok.keep (CxLe.refl _) (fun k hk => by rw [e4]; exact hc1.ok.im k hk) hI hL (fun k hl hk => hc1.ok.not_live hk hl)
    have henv2 : ∀ t, RepV Γ1 w2 (lk st1.env t) (a'.tmps.getD t undef) := fun t => (hc1.env t).mono (CxLe.refl _) hI
    obtain ⟨us1, hrun, hul, hug⟩ := results_run (P := P) (fn := fn) henv2 hok2 hrl hres
    refine ⟨_, hrun, (if h : us1.toArray.size = 1 then us1.toArray[0] else .tuple us1.toArray), ?_⟩
    let a2 : Act := { tmps := us1.toArray, defers := [] }
    have henv3 : ∀ t, RepV Γ1 w2 (lk (argEnv 0 vs0) t) (a2.tmps.getD t undef) := fun t => by
      have := repL_env (Γ := Γ1) (w := w2) (args := vs0) (us := us1.toArray) (m := 0) ⟨by simp [hul], fun i v u hv hu => hug i v u hv (by simpa using hu)⟩ t
      simpa [a2] using this
    have hc1' : Conc us1.length 0 nx Γ1 w2 ⟨argEnv 0 vs0, st1.σ, st1.nx⟩ a2 :=
      ⟨by simp [a2], henv3, hok2, hc1.free, hc1.le, ⟨[], rfl, ⟨List.nodup_nil, Nat.zero_le _⟩, fun D hD => by cases hD⟩⟩
    obtain ⟨Γ2, hc2, hext2⟩ := hmv _ _ _ _ _ hc1'
    have hfr2 : ∀ i b, Γ2.ρ i = some b → i < nx' := fun i b hb => by
      rcases Nat.lt_or_ge i nx' with h | h
      · exact h
      · rw [hc2.free i h] at hb; cases hb
    let Γ' : Cx := { I := Γ2.I, ρ := fun i => if nx ≤ i ∧ i < nx' then Γ2.ρ i else Γ.ρ i, κ := fun i => if nx ≤ i ∧ i < nx' then Γ2.κ i else Γ.κ i }
    have hext12 : Ext nx Γ0 w σ Γ1 w2 st1.σ := ⟨e1.trans hext1.os, e2.trans hext1.tape, e3.trans hext1.output, by rw [e4]; exact hext1.size, hext1.im, hext1.new, hext1.ρ, hext1.κ,
      fun k hk hn => (e5 k (fun hm => by have := (hD k hm).1; omega)).trans (hext1.keep k hk hn), hext1.live⟩
    have hext : Ext nx Γ0 w σ Γ2 w2 σ' := hext12.trans hext2
    have h2 : ∀ i, i < nx → Γ2.ρ i = Γ.ρ i ∧ Γ2.κ i = Γ.κ i := fun i hi => ⟨(hext.ρ i hi).trans (hlow0 i hi), hext.κ i hi⟩
    have hle2 : CxLe Γ2 Γ' := ⟨fun _ h => h, fun i b hb => (by
      by_cases hi : nx ≤ i ∧ i < nx'
      · simp only [Γ', hi, and_self, if_true]; exact hb
      · simp only [Γ', hi, if_false]
        have hlt : i < nx' := hfr2 i b hb
        rw [← (h2 i (by omega)).1]; exact hb), fun i b hb => (by
      by_cases hi : nx ≤ i ∧ i < nx'
      · simp only [Γ', hi, and_self, if_true]
      · simp only [Γ', hi, if_false]
        have hlt : i < nx' := hfr2 i b hb
        exact ((h2 i (by omega)).2).symm)⟩
    have hleΓ : CxLe Γ Γ' := ⟨fun k hk => hext.im k hk, fun i b hb => (by
      by_cases hi : nx ≤ i ∧ i < nx'
      · rw [hfr i hi.1 hi.2] at hb; cases hb
      · simp only [Γ', hi, if_false]; exact hb), fun i b hb => (by
      by_cases hi : nx ≤ i ∧ i < nx'
      · rw [hfr i hi.1 hi.2] at hb; cases hb
      · simp only [Γ', hi, if_false])⟩
    have hl0 : ∀ k, Live Γ0 σ k → Live Γ σ k := fun k hk => (hc0.ok.live hle0 k).2 hk
    refine ⟨Γ', rfl, ?_, hc2.ok.keep hle2 (fun k hk => hc2.ok.im k hk) (fun _ _ => rfl) (fun _ _ => rfl) (fun k hl hk => hc2.ok.not_live hk hl), hleΓ, fun i hi => ⟨by simp only [Γ', hi, if_false], by simp only [Γ', hi, if_false]⟩,
      ⟨hext.os, hext.tape, hext.output, hext.size, hext.im, fun k hk => ?_, fun i hi => absurd hi (Nat.not_lt_zero _), fun i hi => absurd hi (Nat.not_lt_zero _), fun k hk hn => hext.keep k hk (fun hl => hn (hl0 k hl)), fun k hk => ?_⟩⟩
    · refine RepV.mono (Γ := Γ2) (w := w2) (retV_rep (by rw [hul, hlen]) (fun i v u hv hu => ?_)) hle2 (fun _ _ => rfl)
      have := hc2.env i
      rw [lk_argEnv] at this
      simp only [Nat.zero_le, if_true, Nat.sub_zero, hv, Option.getD_some] at this
      have hu' : a2.tmps.getD i undef = u := by
        simp only [a2, Array.getD_eq_getD_getElem?, List.getElem?_toArray, hu, Option.getD_some]
      rw [hu'] at this
      exact this
    · rcases hext.new k hk with h3 | h3 | h3
      · exact .inl h3
      · exact .inr (.inl h3)
      · exact .inr (.inr (hl0 k h3))
    · have := (hc2.ok.live hle2 k).1 hk
      exact (hext.live k this).imp (hl0 k) id
  refine wpIn_mono (h none 0 w.heap.size own code (fun _ => rfl) hlc Γ0 Γ0 w w σ a0 hc0 (Ext.refl _ _ _ _)) (fun e a' w1 hp => ?_)
  obtain ⟨he, hl⟩ := hfin e a' w1 hp
  rcases he with rfl | rfl
  · exact hl
  · exact hl
end
end Go.Pw

namespace Go.Pw
open Go Go.RowKit
section
variable {P : Program} {N base : Nat}
/-- From step k on each one waits for all before it. -/
def fullFrom (M : List Nat) (k : Nat) : Bool := (List.range' k (M.length - k)).all fun i => M.getD i 0 == 2 ^ i - 1
theorem fullFrom_spec {M : List Nat} {m : Nat} (h : fullFrom M m = true) {j k : Nat} (hk : m ≤ k) (hl : k < M.length) (hj : j < k) : ahead M j k = true := by
  have := List.all_eq_true.1 h k (by rw [List.mem_range'_1]; omega)
  unfold ahead
  rw [eq_of_beq this, Nat.testBit_two_pow_sub_one]
  simpa using hj
theorem ssaAfter_app {M : List Nat} {j : Nat} {p : LIns} : ∀ (l m : List LIns) (k : Nat), ssaAfter M j p k (l ++ m) = true → ssaAfter M j p k l = true
  | [], _, _, _ => rfl
  | x :: l, m, k, h => by
    simp only [List.cons_append, ssaAfter, Bool.and_eq_true] at h ⊢
    exact ⟨h.1, ssaAfter_app l m (k + 1) h.2⟩
theorem ssaAll_app {M : List Nat} : ∀ (l m : List LIns) (j : Nat), ssaAll M j (l ++ m) = true → ssaAll M j l = true
  | [], _, _, _ => rfl
  | x :: l, m, j, h => by
    simp only [List.cons_append, ssaAll, Bool.and_eq_true] at h ⊢
    exact ⟨ssaAfter_app l m _ h.1, ssaAll_app l m (j + 1) h.2⟩
theorem lowList_app {own : List Nat} {opsA : Array Oper} : ∀ (l1 l2 : List LIns) (os : List Oper), lowList P N own opsA os = some (l1 ++ l2) → ∃ o1 o2, os = o1 ++ o2 ∧ o1.length = l1.length ∧ lowList P N own opsA o2 = some l2
  | [], l2, os, h => ⟨[], os, rfl, rfl, h⟩
  | x :: l1, l2, os, h => by
    obtain ⟨o, os', rfl, h1, h2⟩ := lowList_cons h
    obtain ⟨o1, o2, rfl, h3, h4⟩ := lowList_app l1 l2 os' h2
    exact ⟨o :: o1, o2, rfl, by simp [h3], h4⟩
/-- What remains, in the only order left. -/
theorem seqOrder {F : Fence} {n : Nat} {opsA : Array Oper} {A : Nat → Nat → Bool} {m : Nat} {Q : Exit → Act → World → Prop}
    (hA : ∀ j k, A j k = true → ∃ o, opsA[k]? = some o ∧ ∃ e ∈ o.after, Region.binds .any e = true ∧ (e.on = j ∨ A j e.on = true))
    (hseq : ∀ j k, m ≤ k → k < opsA.size → j < k → A j k = true) :
    ∀ (fuel i : Nat) (listed : Array Bool) (a : Act) (w : World), m ≤ i → listed.size = opsA.size → (∀ j, i ≤ j → j < opsA.size → listed.getD j true = false) → (∀ j, j < i → j < opsA.size → listed.getD j true = true) → opsA.size ≤ fuel + i →
      (∀ j k, A j k = true → listed.getD k true = true → k < opsA.size → listed.getD j true = true) → (∀ k o, opsA[k]? = some o → ∀ e ∈ o.after, Region.binds .any e = true → e.on < k) →
      wpOpsIn F n P opsA Q (List.range' i (opsA.size - i)) a w → wpAnyIn F n P .any opsA Q fuel listed a w := by
  intro fuel
  have hone : ∀ (i : Nat) (listed : Array Bool), m ≤ i → (∀ j, i ≤ j → j < opsA.size → listed.getD j true = false) → (∀ j, j < i → j < opsA.size → listed.getD j true = true) →
      (∀ j k, A j k = true → listed.getD k true = true → k < opsA.size → listed.getD j true = true) → (∀ k o, opsA[k]? = some o → ∀ e ∈ o.after, Region.binds .any e = true → e.on < k) → ∀ k, k ∈ Region.ready .any opsA listed → k = i := by
    intro i listed hm hun hli hcl hback k hk
    obtain ⟨hkl, o, ho, hall⟩ := mem_ready.1 hk
    have hks : k < opsA.size := (Array.getElem?_eq_some_iff.1 ho).1
    rcases Nat.lt_or_ge k i with h1 | h1
    · rw [hli k h1 hks] at hkl; cases hkl
    rcases Nat.lt_or_ge i k with h2 | h2
    · exfalso
      obtain ⟨o2, ho2, e, he, hb, h3⟩ := hA i k (hseq i k (by omega) hks h2)
      rw [ho] at ho2; cases ho2
      have hel := getD_true_of_false (hall e he hb)
      have hi : listed.getD i true = true := by
        rcases h3 with h3 | h3
        · rw [← h3]; exact hel
        · exact hcl i e.on h3 hel (by have := hback k o ho e he hb; omega)
      rw [hun i (Nat.le_refl _) (by omega)] at hi; cases hi
    · omega
  induction fuel with
  | zero =>
    intro i listed a w hm hsz hun hli hf hcl hback h
    rw [show opsA.size - i = 0 by omega] at h
    refine ⟨List.eq_nil_iff_forall_not_mem.2 fun k hk => ?_, h⟩
    have h1 := hone i listed hm hun hli hcl hback k hk
    obtain ⟨_, o, ho, _⟩ := mem_ready.1 hk
    have := (Array.getElem?_eq_some_iff.1 ho).1
    omega
  | succ fuel ih =>
    intro i listed a w hm hsz hun hli hf hcl hback h
    refine ⟨fun hnil => ?_, fun k hk => ?_⟩
    · rcases Nat.lt_or_ge i opsA.size with h1 | h1
      · exfalso
        have : i ∈ Region.ready .any opsA listed := mem_ready.2 ⟨hun i (Nat.le_refl _) h1, opsA[i], Array.getElem?_eq_getElem h1, fun e he hb => by
          have h2 := hback i _ (Array.getElem?_eq_getElem h1) e he hb
          have h3 := hli e.on h2 (by omega)
          rw [Array.getD_eq_getD_getElem?, Array.getElem?_eq_getElem (by omega)] at h3 ⊢
          exact h3⟩
        rw [hnil] at this; cases this
      · rw [show opsA.size - i = 0 by omega] at h; exact h
    · have h1 := hone i listed hm hun hli hcl hback k hk
      subst h1
      obtain ⟨hkl, o, ho, hall⟩ := mem_ready.1 hk
      have hks : k < opsA.size := (Array.getElem?_eq_some_iff.1 ho).1
      rw [show opsA.size - k = (opsA.size - (k + 1)) + 1 by omega, List.range'_succ, wpOpsIn_cons] at h
      have hgo : ∀ a w, wpOpsIn F n P opsA Q (List.range' (k + 1) (opsA.size - (k + 1))) a w → wpAnyIn F n P .any opsA Q fuel (listed.setIfInBounds k true) a w := fun a w h => by
        refine ih (k + 1) _ a w (by omega) (by simpa using hsz) (fun j h2 h3 => ?_) (fun j h2 h3 => ?_) (by omega) (fun j k2 hjk hk2 hk2s => ?_) hback h
        · rw [getD_set_other (by omega)]; exact hun j (by omega) h3
        · rcases Nat.lt_or_ge j k with h4 | h4
          · rw [getD_set_other (by omega)]; exact hli j h4 h3
          · rw [show j = k by omega]; exact getD_set_self
        · have hk2' : k2 ≤ k := by
            rcases Nat.lt_or_ge k k2 with h4 | h4
            · rw [getD_set_other (by omega), hun k2 (by omega) hk2s] at hk2; cases hk2
            · exact h4
          have hjk2 : j < k2 ∨ k2 ≤ j := by omega
          rcases hjk2 with h4 | h4
          · rw [getD_set_other (by omega)]; exact hli j (by omega) (by omega)
          · rcases Nat.lt_or_ge j k with h5 | h5
            · rw [getD_set_other (by omega)]; exact hli j h5 (by omega)
            · rcases Nat.lt_or_ge k j with h6 | h6
              · exfalso
                rcases Nat.lt_or_ge k2 k with h7 | h7
                · have := hcl j k2 hjk (hli k2 h7 (by omega)) hk2s
                  by_cases hjs : j < opsA.size
                  · rw [hun j (by omega) hjs] at this; cases this
                  · obtain ⟨o2, ho2, e, he, hb, h8⟩ := hA j k2 hjk
                    have h9 := hback k2 o2 ho2 e he hb
                    exact Adown hA hback hjk (by omega)
                · exact Adown hA hback hjk (by omega)
              · rw [show j = k by omega]; exact getD_set_self
      unfold wpOpIn at h ⊢
      rw [ho] at h ⊢
      simp only at h ⊢
      split
      · rename_i hw; rw [if_pos hw] at h; exact Oper.wpIn_mono hgo h
      · rename_i hw; rw [if_neg hw] at h; exact ⟨h.1, hgo _ _ h.2⟩
  where
  Adown {opsA : Array Oper} {A : Nat → Nat → Bool} (hA : ∀ j k, A j k = true → ∃ o, opsA[k]? = some o ∧ ∃ e ∈ o.after, Region.binds .any e = true ∧ (e.on = j ∨ A j e.on = true))
      (hback : ∀ k o, opsA[k]? = some o → ∀ e ∈ o.after, Region.binds .any e = true → e.on < k) {j k : Nat} (h : A j k = true) (hjk : k ≤ j) : False := by
    have key : ∀ (n k : Nat), k ≤ n → A j k = true → j < k := by
      intro n
      induction n with
      | zero =>
        intro k hk h
        obtain ⟨o, ho, e, he, hb, _⟩ := hA j k h
        have := hback k o ho e he hb
        omega
      | succ n ih =>
        intro k hk h
        obtain ⟨o, ho, e, he, hb, h1⟩ := hA j k h
        have h2 := hback k o ho e he hb
        rcases h1 with h1 | h1
        · omega
        · have := ih e.on (by omega) h1; omega
    have := key k k (Nat.le_refl _) h
    omega
theorem sched2 {ro : Option Nat} {n B0 nxe m : Nat} {Q : Exit → Act → World → Prop} {own : List Nat} {opsA : Array Oper} {A : Nat → Nat → Bool} {envF : List (Nat × V)} {σF : Store} {Γ0 : Cx} {w0 : World} {σ0 : Store}
    (hback : ∀ k o, opsA[k]? = some o → ∀ e ∈ o.after, Region.binds .any e = true → e.on < k)
    (hm : m < opsA.size) (hseq : ∀ j k, m ≤ k → k < opsA.size → j < k → A j k = true)
    (hend : ∀ (fuel : Nat) (listed : Array Bool) (Γ : Cx) (a : Act) (w : World), listed.size = opsA.size → (∀ j, m ≤ j → j < opsA.size → listed.getD j true = false) → (∀ j, j < m → j < opsA.size → listed.getD j true = true) → opsA.size ≤ fuel + m →
      (∀ j k, A j k = true → listed.getD k true = true → k < opsA.size → listed.getD j true = true) → Conc N B0 base Γ w ⟨envF, σF, nxe⟩ a → Ext base Γ0 w0 σ0 Γ w σF → wpAnyIn (FW ro) n P .any opsA Q fuel listed a w)
    (hA : ∀ j k, A j k = true → ∃ o, opsA[k]? = some o ∧ ∃ e ∈ o.after, Region.binds .any e = true ∧ (e.on = j ∨ A j e.on = true)) :
    ∀ (fuel : Nat) (listed : Array Bool) (rem : List (Nat × Rec)) (env : List (Nat × V)) (σ : Store) (Γ : Cx) (a : Act) (w : World), listed.size = opsA.size →
      (∀ j, (∃ r, (j, r) ∈ rem) ↔ j < m ∧ listed.getD j true = false) → (∀ j, m ≤ j → j < opsA.size → listed.getD j true = false) → rem.Pairwise (fun p q => p.1 < q.1) →
      (∀ j r, (j, r) ∈ rem → ∃ o, opsA[j]? = some o ∧ lowIns P N own opsA o = some r.ins) →
      (∀ j r, (j, r) ∈ rem → VStep P N base r.ins r.lo r.hi r.env r.σ0 r.v r.σ1 ∧ base ≤ r.lo ∧ r.hi ≤ nxe) →
      rem.Pairwise (fun p q => A p.1 q.1 = true ∨ Indep p.2 q.2) → rem.Pairwise (fun p q => p.2.hi ≤ q.2.lo) →
      (∀ j r, (j, r) ∈ rem → ∀ id, r.lo ≤ id → id < r.hi → Γ.ρ id = none) →
      (∀ j k, A j k = true → listed.getD k true = true → k < opsA.size → listed.getD j true = true) →
      T envF σF (rem.map Prod.snd) env σ → Conc N B0 base Γ w ⟨env, σ, nxe⟩ a → Ext base Γ0 w0 σ0 Γ w σ → rem.length + (opsA.size - m) ≤ fuel →
      wpAnyIn (FW ro) n P .any opsA Q fuel listed a w := by
  intro fuel
  have hnilE : ∀ (fuel : Nat) (listed : Array Bool) (env : List (Nat × V)) (σ : Store) (Γ : Cx) (a : Act) (w : World), listed.size = opsA.size → (∀ j, (∃ r : Rec, (j, r) ∈ ([] : List (Nat × Rec))) ↔ j < m ∧ listed.getD j true = false) → (∀ j, m ≤ j → j < opsA.size → listed.getD j true = false) →
      (∀ j k, A j k = true → listed.getD k true = true → k < opsA.size → listed.getD j true = true) → T envF σF [] env σ → Conc N B0 base Γ w ⟨env, σ, nxe⟩ a → Ext base Γ0 w0 σ0 Γ w σ → opsA.size ≤ fuel + m → wpAnyIn (FW ro) n P .any opsA Q fuel listed a w :=
    fun fuel listed env σ Γ a w hsz hrem hun hcl hT hc hext hfuel => hend fuel listed Γ a w hsz hun (fun j h1 h2 => by
      cases h3 : listed.getD j true with
      | true => rfl
      | false => obtain ⟨r, hr⟩ := (hrem j).2 ⟨h1, h3⟩; cases hr) hfuel hcl (hc.same hT.1 hT.2) (hext.same_store hT.2)
  induction fuel with
  | zero =>
    intro listed rem env σ Γ a w hsz hrem hun hidx hops hval hind hnm hfr hcl hT hc hext hfuel
    omega
  | succ fuel ih =>
    intro listed rem env σ Γ a w hsz hrem hun hidx hops hval hind hnm hfr hcl hT hc hext hfuel
    by_cases hnil : rem = []
    · subst hnil
      exact hnilE _ listed env σ Γ a w hsz hrem hun hcl hT hc hext (by simp at hfuel; omega)
    refine ⟨fun hnone => ?_, fun k hk => ?_⟩
    · cases rem with
      | nil => exact absurd rfl hnil
      | cons p rem =>
        obtain ⟨j, r⟩ := p
        exfalso
        obtain ⟨o, ho, hlo⟩ := hops j r (by simp)
        have hjl : listed.getD j true = false := ((hrem j).1 ⟨r, by simp⟩).2
        have hjm : j < m := ((hrem j).1 ⟨r, by simp⟩).1
        have : j ∈ Region.ready .any opsA listed := mem_ready.2 ⟨hjl, o, ho, fun e he hb => ?_⟩
        · rw [hnone] at this; cases this
        · have hlt := hback j o ho e he hb
          have hjs : j < opsA.size := (Array.getElem?_eq_some_iff.1 ho).1
          have hes : e.on < listed.size := by omega
          cases hb' : listed.getD e.on true with
          | true =>
            rw [Array.getD_eq_getD_getElem?, Array.getElem?_eq_getElem hes] at hb' ⊢
            exact hb'
          | false =>
            obtain ⟨r', hr'⟩ := (hrem e.on).2 ⟨by omega, hb'⟩
            rcases List.mem_cons.1 hr' with h1 | h1
            · have : e.on = j := congrArg Prod.fst h1
              omega
            · have : j < e.on := (List.pairwise_cons.1 hidx).1 _ h1
              omega
    · obtain ⟨hkl, o, ho, hall⟩ := mem_ready.1 hk
      have hks' : k < opsA.size := (Array.getElem?_eq_some_iff.1 ho).1
      have hkm : k < m := by
        rcases Nat.lt_or_ge k m with h1 | h1
        · exact h1
        · exfalso
          cases rem with
          | nil => exact absurd rfl hnil
          | cons p rem =>
            obtain ⟨h2, h3⟩ := (hrem p.1).1 ⟨p.2, by simp⟩
            obtain ⟨o2, ho2, e, he, hb, h4⟩ := hA p.1 k (hseq p.1 k h1 hks' (by omega))
            rw [ho] at ho2; cases ho2
            have hel := getD_true_of_false (hall e he hb)
            have : listed.getD p.1 true = true := by
              rcases h4 with h4 | h4
              · rw [← h4]; exact hel
              · exact hcl p.1 e.on h4 hel (by have := hback k o ho e he hb; omega)
            rw [h3] at this; cases this
      obtain ⟨r, hr⟩ := (hrem k).2 ⟨hkm, hkl⟩
      obtain ⟨pre, post, rfl⟩ := List.append_of_mem hr
      obtain ⟨o', ho', hlo⟩ := hops k r hr
      rw [ho] at ho'; cases ho'
      obtain ⟨hvs, hblo, hhie⟩ := hval k r hr
      have hks : k < opsA.size := (Array.getElem?_eq_some_iff.1 ho).1
      have hanc : ∀ j, A j k = true → listed.getD j true = true := fun j hj => by
        obtain ⟨o2, ho2, e, he, hb, h1⟩ := hA j k hj
        rw [ho] at ho2; cases ho2
        have hel := getD_true_of_false (hall e he hb)
        rcases h1 with h1 | h1
        · rw [← h1]; exact hel
        · exact hcl j e.on h1 hel (by have := hback k o ho e he hb; omega)
      have hpre : ∀ p ∈ pre, Indep p.2 r := fun p hp => by
        rcases (List.pairwise_append.1 hind).2.2 p hp (k, r) (by simp) with h1 | h1
        · have h2 := hanc _ h1
          have h3 := ((hrem p.1).1 ⟨p.2, by simp [hp]⟩).2
          rw [h2] at h3; cases h3
        · exact h1
      have hT' : T envF σF (r :: ((pre ++ post).map Prod.snd)) env σ := by
        rw [List.map_append] at hT ⊢
        exact T_front _ hT fun p hp => by
          obtain ⟨q, hq, rfl⟩ := List.mem_map.1 hp
          exact hpre q hq
      obtain ⟨t1, t2, t3⟩ := hT'
      have hsub : (pre ++ post).Sublist (pre ++ (k, r) :: post) := List.Sublist.append (List.Sublist.refl _) (List.sublist_cons_self _ _)
      have hne : ∀ j r', (j, r') ∈ pre ++ post → j ≠ k := fun j r' hj heq => by
        subst heq
        rcases List.mem_append.1 hj with h1 | h1
        · have := (List.pairwise_append.1 hidx).2.2 _ h1 (j, r) (by simp)
          exact Nat.lt_irrefl _ this
        · have := (List.pairwise_cons.1 (List.pairwise_append.1 hidx).2.1).1 _ h1
          exact Nat.lt_irrefl _ this
      show wpOpIn (FW ro) n P opsA _ k _ a w
      unfold wpOpIn
      rw [ho]
      refine hvs ro n B0 own opsA o hlo Γ w a env σ nxe hc t1 t2 (fun id h1 h2 => hfr k r hr id h1 h2) hhie hblo _ _ (fun Γ' w' a' hc' hext' hρ => ?_)
      refine ih (listed.setIfInBounds k true) (pre ++ post) _ _ Γ' a' w' (by simpa using hsz) (fun j => ?_) (fun j h1 h2 => by rw [getD_set_other (by omega)]; exact hun j h1 h2) (hidx.sublist hsub) (fun j r' hj => hops j r' (hsub.subset hj)) (fun j r' hj => hval j r' (hsub.subset hj)) (hind.sublist hsub) (hnm.sublist hsub)
        (fun j r' hj id h1 h2 => ?_) (fun j k2 hjk hk2 hk2s => ?_) t3 hc' (hext.trans hext') (by simp only [List.length_append, List.length_cons] at hfuel ⊢; omega)
      · by_cases hjk : j = k
        · subst hjk
          rw [getD_set_self]
          constructor
          · rintro ⟨r', hr'⟩; exact absurd rfl (hne j r' hr')
          · intro h; cases h.2
        · rw [getD_set_other (Ne.symm hjk), ← hrem j]
          constructor
          · rintro ⟨r', hr'⟩; exact ⟨r', hsub.subset hr'⟩
          · rintro ⟨r', hr'⟩
            refine ⟨r', ?_⟩
            simp only [List.mem_append, List.mem_cons, Prod.mk.injEq, hjk, false_and, false_or] at hr' ⊢
            exact hr'
      · rw [hρ id]
        · exact hfr j r' (hsub.subset hj) id h1 h2
        · rintro ⟨h3, h4⟩
          rcases List.mem_append.1 hj with h5 | h5
          · have := (List.pairwise_append.1 hnm).2.2 _ h5 (k, r) (by simp)
            simp only at this
            omega
          · have := (List.pairwise_cons.1 (List.pairwise_append.1 hnm).2.1).1 _ h5
            simp only at this
            omega
      · by_cases hj : j = k
        · subst hj; exact getD_set_self
        · rw [getD_set_other (Ne.symm hj)]
          by_cases hk2' : k2 = k
          · subst hk2'; exact hanc j hjk
          · rw [getD_set_other (Ne.symm hk2')] at hk2
            exact hcl j k2 hjk hk2 hk2s
theorem wpOpsIn_post {F : Fence} {n : Nat} {opsA : Array Oper} {Q Q' : Exit → Act → World → Prop} (hpost : ∀ e a w, Q e a w → Q' e a w) : ∀ (l : List Nat) (a : Act) (w : World), wpOpsIn F n P opsA Q l a w → wpOpsIn F n P opsA Q' l a w
  | [], _, _, h => hpost _ _ _ h
  | i :: l, a, w, h => by
    rw [wpOpsIn_cons] at h ⊢
    have hk : ∀ a w, wpOpsIn F n P opsA Q l a w → wpOpsIn F n P opsA Q' l a w := fun a w => wpOpsIn_post hpost l a w
    have hh := h
    unfold wpOpIn at hh ⊢
    split
    · rename_i ho; rw [ho] at hh; exact hk _ _ hh
    · rename_i o ho
      rw [ho] at hh
      simp only at hh
      split
      · rename_i hw
        rw [if_pos hw] at hh
        refine ⟨hh.1, ?_⟩
        have hh := hh.2
        generalize (o.semAt F.round a.eval).run P w = r at *
        cases r with
        | ok x w' =>
          cases x <;> simp only [Oper.uponIn] at hh ⊢ <;>
            first
              | exact hk _ _ hh
              | exact ⟨hh.1, CallsIn.mono hh.2 (fun e w'' he => by cases e <;> first | exact hk _ _ he | exact hpost _ _ _ he | (obtain ⟨a1, w1, hq⟩ := he; exact ⟨a1, w1, hpost _ _ _ hq⟩))⟩
              | exact ⟨hh.1, RowsIn.mono hh.2 (fun _ _ he => hk _ _ he)⟩
              | exact ⟨hh.1, RoundIn.mono hh.2 (fun e w'' he => by cases e <;> first | exact hk _ _ he | exact hpost _ _ _ he | (obtain ⟨a1, w1, hq⟩ := he; exact ⟨a1, w1, hpost _ _ _ hq⟩))⟩
        | halt x w' => cases x <;> simp only [Oper.uponIn] at hh ⊢ <;> exact hpost _ _ _ hh
      · rename_i hw
        rw [if_neg hw] at hh
        exact ⟨hh.1, hk _ _ hh.2⟩
theorem Ops.any {ops : List LIns} {st : St} {Q : Exit → St → Prop} (h : Ops P N base ops st fun st' => Q .normal st') {ro : Option Nat} {n B0 : Nat} (own : List Nat) (opsA : Array Oper) (idx : List Nat) (os : List Oper) (hl : lowList P N own opsA os = some ops) (hi : idx.map (opsA[·]?) = os.map some)
    {Γ0 Γ : Cx} {w0 w : World} {σ0 : Store} {a : Act} (hc : Conc N B0 base Γ w st a) (hext : Ext base Γ0 w0 σ0 Γ w st.σ) : wpOpsIn (FW ro) n P opsA (Post N B0 base Γ0 w0 σ0 Q) idx a w :=
  wpOpsIn_post (fun _ _ _ ⟨Γ', st', h1, h2, h3, h4⟩ => ⟨Γ', st', h1, h2, by subst h3; exact h4⟩) idx a w (h ro n B0 own opsA idx os hl hi Γ0 Γ w0 w σ0 a hc hext)
/-- A region that draws its order of evaluation up to a step. -/
theorem Sat.regionD2 {ops1 ops2 : List LIns} {M ks : List Nat} {st : St} {Q : Exit → St → Prop} {rs : List Rec} {env' : List (Nat × V)} {σ' : Store} {nx' : Nat} (hm : P.follows .mixedOrders = true)
    (h : Tr P N base ops1 st.env st.σ st.nx rs env' σ' nx') (hf : fpAll M 0 (rs.map Rec.fp) = true) (hfull : fullFrom M rs.length = true) (hne : ops2 ≠ []) (h2 : Ops P N base ops2 ⟨env', σ', nx'⟩ fun st' => Q .normal st') : Sat P N base (.regionD (ops1 ++ ops2) M ks) st Q := by
  intro ro n B0 own code hro hl Γ0 Γ w0 w σ0 a hc hext
  obtain ⟨id, opsA, rfl, hlow, hM, hb, hssa⟩ := low_regionD hl
  refine wpIn_region_any hm ?_
  obtain ⟨hlen, hget⟩ := lowList_get opsA.toList (ops1 ++ ops2) hlow
  have hins := h.ins
  have hrl1 : rs.length = ops1.length := by
    have := congrArg List.length hins
    simpa only [List.length_map] using this
  have hrl : rs.length < opsA.size := by
    simp only [List.length_append, Array.length_toList] at hlen
    have := List.length_pos_iff.2 hne
    omega
  have hMl : M.length = opsA.size := by
    obtain ⟨R, hR, hRl, _⟩ := mkMasks_spec opsA.toList []
    rw [hM, hR]; simpa using hRl
  obtain ⟨o1, o2, ho12, ho1, hlow2⟩ := lowList_app ops1 ops2 _ hlow
  have hback : ∀ (k : Nat) (o : Oper), opsA[k]? = some o → ∀ e ∈ o.after, Region.binds .any e = true → e.on < k := fun k o ho e he hbd => by have := backOk_spec _ _ hb k o (by simpa using ho) e he hbd; omega
  have hAll : ∀ j k, ahead M j k = true → ∃ o, opsA[k]? = some o ∧ ∃ e ∈ o.after, Region.binds .any e = true ∧ (e.on = j ∨ ahead M j e.on = true) := fun j k hj => by rw [hM] at hj ⊢; exact ahead_spec hb j k hj
  have hseq : ∀ j k, rs.length ≤ k → k < opsA.size → j < k → ahead M j k = true := fun j k h1 h2 h3 => fullFrom_spec hfull h1 (by omega) h3
  have hmem : ∀ j r, (j, r) ∈ (rs.zipIdx.map fun p => (p.2, p.1)) ↔ rs[j]? = some r := fun j r => by
    simp only [List.mem_map, Prod.mk.injEq, Prod.exists]
    constructor
    · rintro ⟨r', j', h1, rfl, rfl⟩
      exact List.mem_zipIdx_iff_getElem?.1 h1
    · intro h1
      exact ⟨r, j, List.mem_zipIdx_iff_getElem?.2 h1, rfl, rfl⟩
  have hmemr : ∀ j r, (j, r) ∈ (rs.zipIdx.map fun p => (p.2, p.1)) → r ∈ rs := fun j r hj => List.mem_of_getElem? ((hmem j r).1 hj)
  have hconc : Conc N B0 base Γ { w with drawn := w.drawn + 1 } ⟨st.env, st.σ, nx'⟩ a := by
    have hc' := hc.heap (w' := { w with drawn := w.drawn + 1 }) rfl
    exact ⟨hc'.size, hc'.env, hc'.ok, fun id hid => hc'.free id (Nat.le_trans h.le.1 hid), Nat.le_trans hc'.le h.le.1, hc'.dfs⟩
  have hpair := pairs_spec (M := M) rs 0 h.rd (by rw [hins]; exact ssaAll_app _ _ _ hssa) hf
  exact sched2 (A := ahead M) (own := own) (envF := env') (σF := σ') (nxe := nx') (base := base) (N := N) (m := rs.length)
      hback hrl hseq
      (fun fuel listed Γ' a' w' hsz hun hli hfu hcl hc' hext' => by
        refine seqOrder hAll hseq fuel rs.length listed a' w' (Nat.le_refl _) hsz hun hli hfu hcl hback ?_
        refine Ops.any h2 own opsA _ o2 hlow2 ?_ hc' hext'
        have hs : opsA.size = o1.length + o2.length := by rw [← Array.length_toList, ho12, List.length_append]
        rw [hs, hrl1, ← ho1, Nat.add_sub_cancel_left]
        refine List.ext_getElem? fun i => ?_
        simp only [List.getElem?_map]
        rcases Nat.lt_or_ge i o2.length with h1 | h1
        · rw [List.getElem?_range' h1, List.getElem?_eq_getElem h1]
          simp only [Option.map_some, Nat.one_mul]
          rw [← Array.getElem?_toList, ho12, List.getElem?_append_right (by omega), Nat.add_sub_cancel_left, List.getElem?_eq_getElem h1]
        · rw [List.getElem?_eq_none (by simpa using h1), List.getElem?_eq_none h1]; rfl)
      hAll
      opsA.size _ (rs.zipIdx.map fun p => (p.2, p.1)) st.env st.σ Γ a _ (by simp)
      (fun j => by
        constructor
        · rintro ⟨r, hr⟩
          have := (List.getElem?_eq_some_iff.1 ((hmem j r).1 hr)).1
          rw [Array.getD_eq_getD_getElem?, Array.getElem?_replicate, if_pos (by omega)]; exact ⟨this, rfl⟩
        · intro hj
          exact ⟨rs[j]'hj.1, (hmem j _).2 (List.getElem?_eq_getElem hj.1)⟩)
      (fun j _ hj => by rw [Array.getD_eq_getD_getElem?, Array.getElem?_replicate, if_pos hj]; rfl)
      (by
        rw [List.pairwise_map]
        have := List.pairwise_iff_getElem (R := fun p q : Rec × Nat => p.2 < q.2) (l := rs.zipIdx)
        rw [this]
        intro i j hi hj hij
        simp only [List.getElem_zipIdx]
        omega)
      (fun j r hj => by
        have h1 := (hmem j r).1 hj
        have h2 : (ops1 ++ ops2)[j]? = some r.ins := by rw [List.getElem?_append_left (by rw [← hrl1]; exact (List.getElem?_eq_some_iff.1 h1).1), ← hins]; simp [h1]
        obtain ⟨o, ho, hlo⟩ := hget j r.ins h2
        exact ⟨o, by simpa using ho, hlo⟩)
      (fun j r hj => by
        have hr := hmemr j r hj
        exact ⟨h.valid r hr, Nat.le_trans hc.le (h.le.2 r hr).1, (h.le.2 r hr).2⟩)
      (by rw [List.pairwise_map]; exact hpair)
      (by
        rw [List.pairwise_map]
        have h1 := h.names
        have h2 := List.pairwise_iff_getElem (R := fun p q : Rec × Nat => p.1.hi ≤ q.1.lo) (l := rs.zipIdx)
        rw [h2]
        intro i j hi hj hij
        simp only [List.getElem_zipIdx]
        exact (List.pairwise_iff_getElem.1 h1) i j _ _ hij)
      (fun j r hj id h1 h2 => hc.free id (Nat.le_trans (h.le.2 r (hmemr j r hj)).1 h1))
      (fun j k _ hk hks => by
        rw [Array.getD_eq_getD_getElem?, Array.getElem?_replicate, if_pos hks] at hk
        cases hk)
      (by
        rw [List.map_map]
        have : (rs.zipIdx.map (Prod.snd ∘ fun p : Rec × Nat => (p.2, p.1))) = rs := by
          have h3 : (Prod.snd ∘ fun p : Rec × Nat => (p.2, p.1)) = Prod.fst := rfl
          rw [h3]; simp
        rw [this]
        exact h.T _ fun t => RI.refl _)
      hconc (hext.drew _) (by simp; omega)
end
end Go.Pw

namespace Go.Pw
open Go Go.RowKit
def idOf : V → List Nat
  | .c (.bp id _) => [id]
  | .c (.ep id _ _ _) => [id]
  | .c (.ms id _) => [id]
  | _ => []
/-- The names that an operation follows. -/
def foot (ev : Operand → V) : LOp → List Nat
  | .load _ _ a => idOf (ev a)
  | .store _ a _ => idOf (ev a)
  | .append _ _ _ _ x y => idOf (ev x) ++ idOf (ev y)
  | _ => []
def pickS (σ : Store) : List Nat → Store
  | [] => []
  | i :: is => match get σ i with
    | some e => (i, e) :: pickS σ is
    | none => pickS σ is
theorem pickS_sub {σ : Store} : ∀ (l : List Nat), Sub (pickS σ l) σ
  | [], id, e, h => by simp [pickS, get] at h
  | i :: is, id, e, h => by
    simp only [pickS] at h
    split at h
    · rename_i x hx
      rw [get_cons] at h
      split at h
      · rename_i hi; subst hi; cases h; exact hx
      · exact pickS_sub is id e h
    · exact pickS_sub is id e h
/-- The spine of a list, forced. -/
def frS {R : Type} : Store → (Store → R) → R
  | [], k => k []
  | (i, e) :: l, k => frS l fun l' => k ((i, e) :: l')
theorem frS_eq {R : Type} : ∀ (l : Store) (k : Store → R), frS l k = k l
  | [], _ => rfl
  | (i, e) :: l, k => by simp only [frS, frS_eq l]
def frN {R : Type} : List Nat → (List Nat → R) → R
  | [], k => k []
  | i :: l, k => frN l fun l' => k (i :: l')
theorem frN_eq {R : Type} : ∀ (l : List Nat) (k : List Nat → R), frN l k = k l
  | [], _ => rfl
  | i :: l, k => by simp only [frN, frN_eq l]
section
variable {P : Program} {N base : Nat}
/-- Steps of a region that draws its order, from a state on; acc: what the steps before looked at. -/
def OpsD (P : Program) (N base : Nat) (M : List Nat) (_n0 : Nat) (_ks : List Nat) (ops : List LIns) (st : St) (acc : List (Bool × List Nat)) (K : St → Prop) : Prop :=
  ∃ ops1 ops2 rs env' σ' nx', ops = ops1 ++ ops2 ∧ Tr P N base ops1 st.env st.σ st.nx rs env' σ' nx' ∧ fpAll M 0 (acc.reverse ++ rs.map Rec.fp) = true ∧
    (ops2 = [] ∧ K ⟨env', σ', nx'⟩ ∨ ops2 ≠ [] ∧ fullFrom M (acc.length + rs.length) = true ∧ Ops P N base ops2 ⟨env', σ', nx'⟩ K)
variable {M : List Nat} {n0 : Nat} {ks : List Nat} {ops : List LIns} {st : St} {acc : List (Bool × List Nat)} {K : St → Prop} {Q : Exit → St → Prop}
theorem Sat.drawn (hm : P.follows .mixedOrders = true) (h : OpsD P N base M st.nx ks ops st [] fun st' => Q .normal st') : Sat P N base (.regionD ops M ks) st Q := by
  obtain ⟨ops1, ops2, rs, env', σ', nx', rfl, h1, h2, h3⟩ := h
  rcases h3 with ⟨rfl, h3⟩ | ⟨h3, h4, h5⟩
  · rw [List.append_nil]; exact Sat.regionD hm h1 h2 h3
  · exact Sat.regionD2 hm h1 h2 (by simpa using h4) h3 h5
theorem OpsD.nil (hf : fpAll M 0 acc.reverse = true) (h : K st) : OpsD P N base M n0 ks [] st acc K :=
  ⟨[], [], [], st.env, st.σ, st.nx, rfl, .nil _ _ _, by simpa using hf, .inl ⟨rfl, h⟩⟩
/-- The order is given from here on. -/
theorem OpsD.seq {i : LIns} (hf : fpAll M 0 acc.reverse = true) (hM : fullFrom M acc.length = true) (h : Ops P N base (i :: ops) st K) : OpsD P N base M n0 ks (i :: ops) st acc K :=
  ⟨[], i :: ops, [], st.env, st.σ, st.nx, rfl, .nil _ _ _, by simpa using hf, .inr ⟨by simp, by simpa using hM, h⟩⟩
theorem OpsD.know (t : Nat) (b : Bool) (h : lk st.env t = vbl b) (h1 : b = true → OpsD P N base M n0 ks ops ⟨(t, .c .tru) :: st.env, st.σ, st.nx⟩ acc K) (h2 : b = false → OpsD P N base M n0 ks ops ⟨(t, .c .fls) :: st.env, st.σ, st.nx⟩ acc K) : OpsD P N base M n0 ks ops st acc K := by
  cases b with
  | true =>
    obtain ⟨ops1, ops2, rs, env', σ', nx', rfl, h3, h4, h5⟩ := h1 rfl
    exact ⟨ops1, ops2, rs, env', σ', nx', rfl, .know t true h h3, h4, h5⟩
  | false =>
    obtain ⟨ops1, ops2, rs, env', σ', nx', rfl, h3, h4, h5⟩ := h2 rfl
    exact ⟨ops1, ops2, rs, env', σ', nx', rfl, .know t false h h3, h4, h5⟩
theorem OpsD.step {i : LIns} {rest : List LIns} {σ0 σ1 : Store} {lo hi k : Nat} {v : V} (hv : VStep P N base i lo hi st.env σ0 v σ1) (hs : Sub σ0 st.σ) (hlo : st.nx ≤ lo) (hhi : lo ≤ hi) (rd : Bool) (hrd : rd = true → σ1 = σ0)
    (h : OpsD P N base M n0 ks rest ⟨putE st.env i.dst v, app σ0 σ1 st.σ, hi⟩ ((rd, dom σ0 ++ dom σ1) :: acc) K) : OpsD P N base M n0 (k :: ks) (i :: rest) st acc K := by
  obtain ⟨ops1, ops2, rs, env', σ', nx', rfl, h3, h4, h5⟩ := h
  refine ⟨i :: ops1, ops2, _, env', σ', nx', rfl, .step hv hs hlo hhi rd hrd h3, ?_, ?_⟩
  · simpa [Rec.fp, Rec.ids] using h4
  · rw [List.length_cons, Nat.add_right_comm] at h5; exact h5
/-- A call in a region that draws. -/
theorem OpsD.call {i : LIns} {rest : List LIns} {σ0 σ1 : Store} {hi k : Nat} {v : V} {f : FuncId} {ids : List Nat} {fop : Operand} {xs : List Operand} {args : List V} (hg : guardOf st.env i.guard = .run) (hop : i.op = .call fop xs) (hf : evo st.env fop = .c (.fn f ids))
    (hargs : RIs (xs.map (evo st.env) ++ ids.map fun k => .c (.bp k 0)) args) (hc : CallD P f args σ0 st.nx v σ1 hi) (hs : Sub σ0 st.σ)
    (h : OpsD P N base M n0 ks rest ⟨putE st.env i.dst v, app σ0 σ1 st.σ, hi⟩ ((false, dom σ0 ++ dom σ1) :: acc) K) : OpsD P N base M n0 (k :: ks) (i :: rest) st acc K :=
  OpsD.step (VStep.call hg hop hf hargs hc) hs (Nat.le_refl _) hc.2.1 false (fun h => by cases h) h
/-- A step of a region in the text's order. -/
theorem Ops.vstep {i : LIns} {rest : List LIns} {σ0 σ1 : Store} {hi : Nat} {v : V} (hv : VStep P N base i st.nx hi st.env σ0 v σ1) (hs : Sub σ0 st.σ) (hhi : st.nx ≤ hi) (h : Ops P N base rest ⟨putE st.env i.dst v, app σ0 σ1 st.σ, hi⟩ K) : Ops P N base (i :: rest) st K := by
  intro ro n B0 own opsA idx os hl hidx Γ0 Γ w0 w σ0' a hc hext
  obtain ⟨o, os', rfl, hi', hl'⟩ := lowList_cons hl
  match idx, hidx with
  | k :: idx, hidx =>
    simp only [List.map_cons, List.cons.injEq] at hidx
    obtain ⟨hk, hidx⟩ := hidx
    have hc' : Conc N B0 base Γ w ⟨st.env, st.σ, hi⟩ a := ⟨hc.size, hc.env, hc.ok, fun id hid => hc.free id (Nat.le_trans hhi hid), Nat.le_trans hc.le hhi, hc.dfs⟩
    have := hv ro n B0 own opsA o hi' Γ w a st.env st.σ hi hc' (fun t _ => RI.refl _) hs (fun id h1 _ => hc.free id h1) (Nat.le_refl _) hc.le
      (wpOpsIn (FW ro) n P opsA (Post N B0 base Γ0 w0 σ0' fun e st' => e = .normal ∧ K st') idx) (Post N B0 base Γ0 w0 σ0' fun e st' => e = .normal ∧ K st')
      (fun Γ' w' a' hc2 hext2 _ => h ro n B0 own opsA idx os' hl' hidx Γ0 Γ' w0 w' σ0' a' hc2 (hext.trans hext2))
    simp only [wpOpsIn, hk]
    exact this
theorem Ops.call {i : LIns} {rest : List LIns} {σ0 σ1 : Store} {hi : Nat} {v : V} {f : FuncId} {ids : List Nat} {fop : Operand} {xs : List Operand} {args : List V} (hg : guardOf st.env i.guard = .run) (hop : i.op = .call fop xs) (hf : evo st.env fop = .c (.fn f ids))
    (hargs : RIs (xs.map (evo st.env) ++ ids.map fun k => .c (.bp k 0)) args) (hc : CallD P f args σ0 st.nx v σ1 hi) (hs : Sub σ0 st.σ)
    (h : Ops P N base rest ⟨putE st.env i.dst v, app σ0 σ1 st.σ, hi⟩ K) : Ops P N base (i :: rest) st K :=
  Ops.vstep (VStep.call hg hop hf hargs hc) hs hc.2.1 h
end
end Go.Pw

namespace Go.Pw
open Go Go.RowKit
section
variable {P : Program} {N base : Nat} {M : List Nat} {n0 : Nat} {ks : List Nat} {st : St} {acc : List (Bool × List Nat)} {K : St → Prop} {Q : Exit → St → Prop}
theorem Ops.pcall {i : LIns} {rest : List LIns} {v : V} {f : FuncId} {fop : Operand} {xs : List Operand} {args : List V} (hg : guardOf st.env i.guard = .run) (hop : i.op = .call fop xs) (hf : evo st.env fop = .c (.fn f []))
    (hargs : RIs (xs.map (evo st.env)) args) (hc : PFD P f args v) (h : Ops P N base rest ⟨putE st.env i.dst v, st.σ, st.nx⟩ K) : Ops P N base (i :: rest) st K :=
  Ops.call (σ0 := []) (σ1 := []) hg hop hf (by simpa using hargs) (hc.at st.nx) (fun id e h => by simp [get] at h) h
theorem OpsD.pcall {i : LIns} {rest : List LIns} {k : Nat} {v : V} {f : FuncId} {fop : Operand} {xs : List Operand} {args : List V} (hg : guardOf st.env i.guard = .run) (hop : i.op = .call fop xs) (hf : evo st.env fop = .c (.fn f []))
    (hargs : RIs (xs.map (evo st.env)) args) (hc : PFD P f args v) (h : OpsD P N base M n0 ks rest ⟨putE st.env i.dst v, st.σ, st.nx⟩ ((false, []) :: acc) K) : OpsD P N base M n0 (k :: ks) (i :: rest) st acc K :=
  OpsD.call (σ0 := []) (σ1 := []) hg hop hf (by simpa using hargs) (hc.at st.nx) (fun id e h => by simp [get] at h) h
theorem RI.tru : RI (.c .tru) (vbl true) := VEq.ri (.c _ _ .tru)
theorem RI.fls : RI (.c .fls) (vbl false) := VEq.ri (.c _ _ .fls)
theorem RI.nil (s : Nat) (f : Nat → List D) : RI (.c (.d (.v (.slice none 0 0)))) (.c (.d (.sl s 0 f))) := fun Γ w u h => by
  cases h with
  | c _ _ h =>
    refine .c _ _ ?_
    generalize hd : D.v (.slice none 0 0) = d at h
    cases (show RepD Γ.I w d u from h) <;> first | cases hd
    exact .slE _ _ _ _
theorem RI.z (s : Nat) (f : Nat → List D) : RI (.c .z) (.c (.d (.sl s 0 f))) := fun Γ w u h => by
  cases h with
  | c _ _ h => obtain ⟨A, rfl⟩ := h; exact .c _ _ (.slE _ _ _ _)
theorem Conc.nilms {B0 : Nat} {Γ : Cx} {w : World} {a : Act} {t : Nat} (e : TypeId) (s : Nat) (f : Nat → List D) (hc : Conc N B0 base Γ w st a) (h : lk st.env t = .c (.d (.v (.slice none 0 0)))) :
    ∃ Γ', Conc N B0 base Γ' w ⟨(t, .c (.ms st.nx 0)) :: st.env, (st.nx, .row e s 0 f false) :: st.σ, st.nx + 1⟩ a ∧ Ext base Γ w st.σ Γ' w ((st.nx, .row e s 0 f false) :: st.σ) := by
  have hid := hc.free st.nx (Nat.le_refl _)
  obtain ⟨h1, h2⟩ := name_nil hc.ok hid hc.le e s f
  have hle := CxLe.upd Γ 0 none hid
  refine ⟨_, ⟨hc.size, fun t' => ?_, h1, fun id hid' => ?_, Nat.le_succ_of_le hc.le, ?_⟩, h2⟩
  · rw [lk_cons]
    split
    · rename_i ht
      subst ht
      have := hc.env t
      rw [h] at this
      generalize a.tmps.getD t undef = u at this ⊢
      cases this with
      | c _ _ hr =>
        refine .c _ _ ⟨0, upd_ρ_same, .inl ⟨rfl, upd_κ_same, ?_⟩⟩
        generalize hd : D.v (.slice none 0 0) = d at hr
        cases (show RepD Γ.I w d u from hr) <;> first | cases hd
        rfl
    · exact (hc.env t').mono hle (fun _ _ => rfl)
  · rw [upd_ρ (by have : st.nx + 1 ≤ id := hid'; omega)]; exact hc.free id (by have : st.nx + 1 ≤ id := hid'; omega)
  · obtain ⟨Ds, d1, d2, d3⟩ := hc.dfs
    refine ⟨Ds, d1, d2, fun D hD => ?_⟩
    obtain ⟨d4, d5, d6, d7⟩ := d3 D hD
    refine ⟨d4, d5, fun hl => ?_, d7⟩
    rcases h2.live D hl with h3 | h3
    · exact d6 h3
    · have := (Array.getElem?_eq_some_iff.1 d7).1; omega
theorem Sat.nilms {x : LCode} (t : Nat) (e : TypeId) (s : Nat) (f : Nat → List D) (h : lk st.env t = .c (.d (.v (.slice none 0 0)))) (k : Sat P N base x ⟨(t, .c (.ms st.nx 0)) :: st.env, (st.nx, .row e s 0 f false) :: st.σ, st.nx + 1⟩ Q) : Sat P N base x st Q := by
  intro ro n B0 own code hro hl Γ0 Γ w0 w σ0 a hc hext
  obtain ⟨Γ', h1, h2⟩ := hc.nilms e s f h
  exact k ro n B0 own code hro hl Γ0 Γ' w0 w σ0 a h1 (hext.trans h2)
theorem ms_data {Γ : Cx} {w : World} {σ : Store} {id : Nat} {e : TypeId} {s m n : Nat} {f : Nat → List D} {fz : Bool} {u : Value} (hok : StoreOk Γ w σ) (hg : get σ id = some (.row e s m f fz)) (hn : n ≤ m) (h : RepC Γ w (.ms id n) u) :
    ∃ b, Γ.ρ id = some b ∧ ∀ Γ' : Cx, (∀ k, Γ.I k → Γ'.I k) → ((∃ c, Γ.κ id = some c) → Γ'.I b) → RepC Γ' w (.d (.sl s n f)) u := by
  obtain ⟨b, hb, hor⟩ := h
  refine ⟨b, hb, fun Γ' hle hI => ?_⟩
  rcases hor with ⟨rfl, _, rfl⟩ | ⟨c, hκ, rfl⟩
  · exact .slE _ _ _ _
  · obtain ⟨b', hb', he⟩ := hok.ok id _ hg
    rw [hb] at hb'; cases hb'
    rcases he with ⟨h1, _⟩ | ⟨c', h1, h2, h3, h4, h5, h6, xs, h7, h8, h9⟩
    · rw [hκ] at h1; cases h1
    · rw [hκ] at h1; cases h1
      refine .sl s n f ⟨b, 0, none⟩ c (fun i j => (xs[i * s + j]?).getD undef) (by omega) (hI ⟨c, hκ⟩) (fun i hi => h6 i (by omega)) (fun i j d hi hd => ?_) (fun i j d hi hd => ?_)
      · obtain ⟨x, hx, _⟩ := h9 i j d (by omega) hd
        rw [cell_at h7, hx]
        simp [hx]
      · obtain ⟨x, hx, hr⟩ := h9 i j d (by omega) hd
        rw [hx]
        exact hr.mono hle (fun _ _ => rfl)
theorem Conc.freeze {B0 : Nat} {Γ : Cx} {w : World} {a : Act} {id : Nat} {e : TypeId} {s m : Nat} {f : Nat → List D} {fz : Bool} (hc : Conc N B0 base Γ w st a) (hg : get st.σ id = some (.row e s m f fz)) :
    ∃ Γ' b, Γ.ρ id = some b ∧ Γ' = Γ.also (fun k => k = b ∧ ∃ c, Γ.κ id = some c) ∧ Conc N B0 base Γ' w ⟨st.env, set st.σ id (.row e s m f true), st.nx⟩ a ∧ Ext base Γ w st.σ Γ' w (set st.σ id (.row e s m f true)) := by
  obtain ⟨b, hb, hok⟩ := hc.ok.ok id _ hg
  have h1 := hc.ok.freeze hg hb
  have hlv : ∀ k, Live (Γ.also fun k => k = b ∧ ∃ c, Γ.κ id = some c) (set st.σ id (.row e s m f true)) k → Live Γ st.σ k := fun k hk => live_set_frozen hg (live_also.1 hk)
  have hext : Ext base Γ w st.σ (Γ.also fun k => k = b ∧ ∃ c, Γ.κ id = some c) w (set st.σ id (.row e s m f true)) :=
    ⟨rfl, rfl, rfl, Nat.le_refl _, fun k hk => .inl hk, fun k hk => by
      rcases hk with hk | ⟨rfl, hcc⟩
      · exact .inl hk
      · rcases hc.ok.or_live hg hb hcc with h2 | h2
        · exact .inl h2
        · exact .inr (.inr ⟨id, h2, hb⟩), fun _ _ => rfl, fun _ _ => rfl, fun _ _ _ => rfl, fun k hk => .inl (hlv k hk)⟩
  refine ⟨_, b, hb, rfl, ⟨hc.size, fun t => (hc.env t).mono (CxLe.also _ _) (fun _ _ => rfl), h1, hc.free, hc.le, ?_⟩, hext⟩
  obtain ⟨Ds, d1, d2, d3⟩ := hc.dfs
  refine ⟨Ds, d1, d2, fun D hD => ?_⟩
  obtain ⟨d4, d5, d6, d7⟩ := d3 D hD
  refine ⟨d4, fun hI => ?_, fun hl => d6 (hlv D hl), d7⟩
  rcases hext.new D hI with h3 | h3 | h3
  · exact d5 h3
  · have := (Array.getElem?_eq_some_iff.1 d7).1; omega
  · exact d6 h3
/-- The row of slot t is closed; the slot holds data. -/
theorem Sat.freeze {x : LCode} (t id : Nat) {n : Nat} {e : TypeId} {s m : Nat} {f : Nat → List D} {fz : Bool} (h : lk st.env t = .c (.ms id n)) (hg : get st.σ id = some (.row e s m f fz)) (hn : n ≤ m)
    (k : Sat P N base x ⟨(t, .c (.d (.sl s n f))) :: st.env, set st.σ id (.row e s m f true), st.nx⟩ Q) : Sat P N base x st Q := by
  intro ro n' B0 own code hro hl Γ0 Γ w0 w σ0 a hc hext
  obtain ⟨Γ', b, hb, rfl, h1, h2⟩ := hc.freeze hg
  refine k ro n' B0 own code hro hl Γ0 _ w0 w σ0 a ⟨h1.size, fun t' => ?_, h1.ok, h1.free, h1.le, h1.dfs⟩ (hext.trans h2)
  rw [lk_cons]
  split
  · rename_i ht
    subst ht
    have := hc.env t
    rw [h] at this
    cases this with
    | c _ _ hr =>
      obtain ⟨b', hb', hd⟩ := ms_data hc.ok hg hn hr
      rw [hb] at hb'; cases hb'
      exact .c _ _ (hd _ (fun k hk => .inl hk) (fun hcc => .inr ⟨rfl, hcc⟩))
  · exact h1.env t'
end
end Go.Pw

namespace Go.Pw
open Go Go.RowKit
/-- Function f, called with these values at this store, returns; what it returns, and the store then, R takes. -/
def CallS (P : Program) (f : FuncId) (args : List V) (σ : Store) (nx : Nat) (R : V → Store → Nat → Prop) : Prop :=
  Ent1 P f ∧ ∀ (Γ : Cx) (w : World) (us : Array Value), StoreOk Γ w σ → (∀ id, nx ≤ id → Γ.ρ id = none) → RepL Γ w args us →
    Calls P f us w fun e w' => ∃ u v Γ' σ' nx', e = .returned u ∧ R v σ' nx' ∧ RepV Γ' w' v u ∧ StoreOk Γ' w' σ' ∧ Ext nx Γ w σ Γ' w' σ' ∧ (∀ id, nx' ≤ id → Γ'.ρ id = none) ∧ nx ≤ nx'
section
variable {P : Program} {N base : Nat} {st : St} {K : St → Prop} {rest : List LIns} {i : LIns}
theorem ext_cxle {Γ Γ' : Cx} {w w' : World} {σ σ' : Store} {nx : Nat} (h : Ext nx Γ w σ Γ' w' σ') (hf : ∀ id, nx ≤ id → Γ.ρ id = none) : CxLe Γ Γ' := by
  have key : ∀ id b, Γ.ρ id = some b → id < nx := fun id b hb => by
    rcases Nat.lt_or_ge id nx with h1 | h1
    · exact h1
    · rw [hf id h1] at hb; cases hb
  exact ⟨h.im, fun id b hb => by rw [h.ρ id (key id b hb)]; exact hb, fun id b hb => h.κ id (key id b hb)⟩
theorem Conc.putS {B0 : Nat} {Γ Γ' : Cx} {w w' : World} {a : Act} {σ' : Store} {nx' : Nat} {v : V} {u : Value} {dst : Option Nat} (h : Conc N B0 base Γ w st a) (hd : ∀ d, dst = some d → d < N) (hv : RepV Γ' w' v u)
    (hst : StoreOk Γ' w' σ') (hext : Ext st.nx Γ w st.σ Γ' w' σ') (hfree : ∀ id, nx' ≤ id → Γ'.ρ id = none) (hle : st.nx ≤ nx') :
    Conc N B0 base Γ' w' ⟨putE st.env dst v, σ', nx'⟩ (a.put dst u) := by
  have h' : Conc N B0 base Γ w ⟨st.env, st.σ, nx'⟩ a := ⟨h.size, h.env, h.ok, fun id hid => h.free id (Nat.le_trans hle hid), Nat.le_trans h.le hle, h.dfs⟩
  exact h'.put2 hd hv hst (ext_cxle hext h.free) (hext.mono h.le) hfree
/-- The values of the arguments, and the boxes of the closure. -/
theorem call_reps {B0 : Nat} {Γ : Cx} {w : World} {a : Act} {c : Call} {xs : List Operand} {ids bs : List Nat} (hc : Conc N B0 base Γ w st a) (hxs : c.args.toList = xs) (hbl : bs.length = ids.length) (hbs : ∀ (j i : Nat), ids[j]? = some i → ∃ b, Γ.ρ i = some b ∧ bs[j]? = some b) :
    RepL Γ w (xs.map (evo st.env) ++ ids.map fun k => .c (.bp k 0)) (c.args.map a.eval ++ (bs.map fun b => ptr b 0).toArray) := by
  have e1 : c.args.size = xs.length := by rw [← hxs]; simp
  refine ⟨by simp [hbl, ← hxs], fun j v u hv hu => ?_⟩
  by_cases hj : j < xs.length
  · rw [List.getElem?_append_left (by simpa using hj)] at hv
    rw [Array.getElem?_append_left (by simpa [e1] using hj)] at hu
    simp only [List.getElem?_map, Option.map_eq_some_iff] at hv
    obtain ⟨x, hx, rfl⟩ := hv
    have hx' : c.args[j]? = some x := by rw [← hxs] at hx; simpa using hx
    simp only [Array.getElem?_map, hx', Option.map_some, Option.some.injEq] at hu
    subst hu
    exact hc.ev x
  · rw [List.getElem?_append_right (by simpa using hj)] at hv
    rw [Array.getElem?_append_right (by simp [e1]; omega)] at hu
    simp only [List.length_map, List.getElem?_map, Option.map_eq_some_iff] at hv
    obtain ⟨k, hk, rfl⟩ := hv
    obtain ⟨b, hb, hb'⟩ := hbs _ k hk
    simp only [Array.size_map, e1, List.getElem?_toArray, List.getElem?_map, hb', Option.map_some, Option.some.injEq] at hu
    subst hu
    exact .c _ _ ⟨b, hb, rfl⟩
theorem Ops.callS {f : FuncId} {ids : List Nat} {fop : Operand} {xs : List Operand} (hg : guardOf st.env i.guard = .run) (hop : i.op = .call fop xs) (hf : evo st.env fop = .c (.fn f ids))
    (h : CallS P f (xs.map (evo st.env) ++ ids.map fun k => .c (.bp k 0)) st.σ st.nx fun v σ' nx' => Ops P N base rest ⟨putE st.env i.dst v, σ', nx'⟩ K) : Ops P N base (i :: rest) st K := by
  intro ro n B0 own opsA idx os hl hidx Γ0 Γ w0 w σ0' a hc hext
  obtain ⟨o, os', rfl, hi', hl'⟩ := lowList_cons hl
  match idx, hidx with
  | k :: idx, hidx =>
    simp only [List.map_cons, List.cons.injEq] at hidx
    obtain ⟨hk, hidx⟩ := hidx
    obtain ⟨⟨b, hop'⟩, hdst, hdN, hgd⟩ := lowIns_some hi'
    obtain ⟨c, hoc, hcal, hxs⟩ := low_call (hop' ▸ hop : lowOp P b o = .call fop xs)
    have hfr' := hc.ev fop
    rw [hf] at hfr'
    obtain ⟨bs, hbl, hbs, hfu⟩ : ∃ bs : List Nat, bs.length = ids.length ∧ (∀ (j i : Nat), ids[j]? = some i → ∃ b, Γ.ρ i = some b ∧ bs[j]? = some b) ∧ a.eval fop = .func (.func f) #[] (bs.map fun b => ptr b 0).toArray := by
      generalize a.eval fop = u at hfr' ⊢
      cases hfr' with | c _ _ h => exact h
    have hrun := run_call (P := P) (w := w) h.1 hoc hcal hfu
    have hw : Region.wanted o (yielded opsA a.tmps) = true := (guardOf_run (i := i) (σ := st.σ) (nx := st.nx) hg).wanted hc hgd
    simp only [wpOpsIn, hk, hw, if_true, Oper.wpIn]
    refine ⟨fun _ _ => trivial, ?_⟩
    rw [Oper.semAt_eq _ _ o (fun c' h' => by rw [hoc] at h'; cases h'), hrun, Oper.uponIn_enter]
    refine ⟨fun h => by simp [FW, Fence.wide] at h, Calls.fw ((h.2 Γ w _ hc.ok hc.free (call_reps hc hxs hbl hbs)).mono ?_)⟩
    rintro e w' ⟨u, v, Γ', σ', nx', rfl, hR, hv, hst, hext', hfree, hle⟩
    have hc' := hc.putS (dst := o.dst) hdN hv hst hext' hfree hle
    exact hR ro n B0 own opsA idx os' hl' hidx Γ0 Γ' w0 w' σ0' _ (by rw [hdst]; exact hc') (hext.trans (hext'.mono hc.le))
theorem CallS.enter {own : List Nat} {f : FuncId} {fn : Func} {lc : LCode} {rl : List RL} {args : List V} {σ : Store} {nx : Nat} {R : V → Store → Nat → Prop} (hf : P.funcs[f]? = some fn) (hent : Ent1 P f) (hlow : lowF P own fn = some (N, lc, rl)) (hN : args.length ≤ N)
    (h : Sat P N nx lc ⟨argEnv 0 args, σ, nx⟩ fun e st' => (e = .normal ∨ e = .ret) ∧ ∃ vs0, resAll st'.env st'.σ rl = some vs0 ∧ R (retV vs0) st'.σ st'.nx) : CallS P f args σ nx R := by
  obtain ⟨code, hb, hlc, hrl, hNt⟩ : ∃ code, fn.body = some code ∧ lowCode P N own code = some lc ∧ lowRs P fn.results.toList = some rl ∧ fn.ntmps = N := by
    unfold lowF at hlow
    split at hlow
    · cases hlow
    · rename_i c hc
      split at hlow
      · rename_i h1 h2
        cases hlow
        exact ⟨c, hc, h1, h2, rfl⟩
      · cases hlow
  refine ⟨hent, fun Γ w us hst hfr hrep => callsIn_wide.1 (callsIn_of_wp_marks (n := 0) hf hb trivial ?_)⟩
  let a0 : Act := { tmps := us ++ Array.replicate (fn.ntmps - us.size) undef, defers := [] }
  have hc0 : Conc N w.heap.size nx Γ w ⟨argEnv 0 args, σ, nx⟩ a0 :=
    ⟨by simp only [a0, Array.size_append, Array.size_replicate, hrep.1, hNt]; omega, fun t => repL_env hrep t, hst, hfr, Nat.le_refl _, ⟨[], rfl, ⟨List.nodup_nil, Nat.le_refl _⟩, fun D hD => by cases hD⟩⟩
  refine wpIn_mono (h none 0 w.heap.size own code (fun _ => rfl) hlc Γ Γ w w σ a0 hc0 (Ext.refl _ _ _ _)) (fun e a' w1 hp => ?_)
  obtain ⟨Γ1, st1, hc1, hext1, he, vs0, hres, hR⟩ := hp
  have hfin : LeavesInM Fence.wide 0 P fn a'.tmps (fun e w' => ∃ u v Γ' σ' nx', e = .returned u ∧ R v σ' nx' ∧ RepV Γ' w' v u ∧ StoreOk Γ' w' σ' ∧ Ext nx Γ w σ Γ' w' σ' ∧ (∀ id, nx' ≤ id → Γ'.ρ id = none) ∧ nx ≤ nx') a'.defers .returning w1 := by
    obtain ⟨Ds, hDs, hnd, hD⟩ := hc1.dfs
    rw [hDs]
    refine leave_marks Ds w1 hnd.1 (fun D hD' => (hD D hD').2.2.2) (fun w2 e1 e2 e3 e4 e5 => ?_)
    have hI : ∀ k, Γ1.I k → w2.heap[k]? = w1.heap[k]? := fun k hk => e5 k (fun hm => (hD k hm).2.1 hk)
    have hL : ∀ k, Live Γ1 st1.σ k → w2.heap[k]? = w1.heap[k]? := fun k hk => e5 k (fun hm => (hD k hm).2.2.1 hk)
    have hok2 : StoreOk Γ1 w2 st1.σ := hc1.ok.keep (CxLe.refl _) (fun k hk => by rw [e4]; exact hc1.ok.im k hk) hI hL (fun k hl hk => hc1.ok.not_live hk hl)
    have henv2 : ∀ t, RepV Γ1 w2 (lk st1.env t) (a'.tmps.getD t undef) := fun t => (hc1.env t).mono (CxLe.refl _) hI
    obtain ⟨us1, hrun, hul, hug⟩ := results_run (P := P) (fn := fn) henv2 hok2 hrl hres
    exact ⟨_, hrun, _, _, Γ1, st1.σ, st1.nx, rfl, hR, retV_rep hul hug, hok2,
      ⟨e1.trans hext1.os, e2.trans hext1.tape, e3.trans hext1.output, by rw [e4]; exact hext1.size, hext1.im, hext1.new, hext1.ρ, hext1.κ, fun k hk hn => (e5 k (fun hm => by have := (hD k hm).1; omega)).trans (hext1.keep k hk hn), hext1.live⟩, hc1.free, hc1.le⟩
  rcases he with rfl | rfl
  · exact hfin
  · exact hfin
/-- What a record holds that never turns. -/
def RR (P : Program) (N : Nat) (ps : List Nat) (la lb : LCode) (r : Loop) : Prop :=
  r.tmps.size = N ∧ r.params.toList = ps ∧ (∀ p ∈ ps, p < N) ∧ ∃ own, lowCode P N own r.assign = some la ∧ lowCode P N own r.body = some lb
/-- The record's state is written. -/
theorem set_lp {Γ : Cx} {w : World} {σ : Store} {id b : Nat} {env : List (Nat × V)} {s s' : LoopState} {j j' : Option Code} {R : Loop → Prop} {r : Loop} (hok : StoreOk Γ w σ) (hg : get σ id = some (.lp env s j R)) (hb : Γ.ρ id = some b) (hh : w.heap[b]? = some (.loop r)) :
    StoreOk Γ (w.putObj b (.loop { r with state := s', pending := j' })) (set σ id (.lp env s' j' R)) ∧ ∀ base, Ext base Γ w σ Γ (w.putObj b (.loop { r with state := s', pending := j' })) (set σ id (.lp env s' j' R)) := by
  have hlt : b < w.heap.size := (Array.getElem?_eq_some_iff.1 hh).1
  obtain ⟨b', hb', hI, r', hr', h1, h2, h3, h4⟩ := hok.ok id _ hg
  rw [hb] at hb'; cases hb'
  rw [hh] at hr'; cases hr'
  have hle : LiveE Γ id (.lp env s j R) := trivial
  have hkeep : ∀ k, k ≠ b → (w.putObj b (.loop { r with state := s', pending := j' })).heap[k]? = w.heap[k]? := fun k hk => putObj_heap_other hk
  have hsame : Same Γ.I w (w.putObj b (.loop { r with state := s', pending := j' })) := fun k hk => hkeep k (fun e => hI (e ▸ hk))
  refine ⟨hok.modify hg hb hle (by simp [World.putObj]) (fun k _ hk => hkeep k hk) ⟨hI, _, World.putObj_heap_same hlt, rfl, rfl, h3, fun t => (h4 t).mono (CxLe.refl _) hsame⟩, fun base =>
    Ext.modify (liveId_iff.2 ⟨_, hg, hle⟩) hb rfl rfl rfl (by simp [World.putObj]) (fun k _ hk => hkeep k hk) (fun k hk => live_set hg hle hk)⟩
end
end Go.Pw

namespace Go.Pw
open Go Go.RowKit
def bindE : List Nat → List V → List (Nat × V) → List (Nat × V)
  | p :: ps, v :: vs, env => bindE ps vs ((p, v) :: env)
  | _, _, env => env
section
variable {P : Program} {N base : Nat} {st : St} {K : St → Prop} {rest : List LIns} {i : LIns}
/-- How a round ends. -/
def roundQ (id : Nat) (R : Loop → Prop) (next : V → Store → Nat → Prop) : Exit → St → Prop
  | e, st2 => ∃ env2 s2 j2, get st2.σ id = some (.lp env2 s2 j2 R) ∧
    match e with
    | .normal => next (.c .tru) (set st2.σ id (.lp env2 .ready none R)) st2.nx
    | .ret => next (.c .fls) (set st2.σ id (.lp env2 .done (some .ret) R)) st2.nx
    | .exit k => next (.c .fls) (set st2.σ id (.lp env2 .done (some (.exit k)) R)) st2.nx
    | _ => False
theorem bindE_rep {Γ : Cx} {w : World} : ∀ (ps : List Nat) (vs : List V) (us : List Value) (env : List (Nat × V)) (tmps : Array Value), us.length = vs.length → (∀ (j : Nat) v u, vs[j]? = some v → us[j]? = some u → RepV Γ w v u) → (∀ p ∈ ps, p < tmps.size) → (∀ t, RepV Γ w (lk env t) (tmps.getD t undef)) →
    (∀ t, RepV Γ w (lk (bindE ps vs env) t) (((ps.zip us).foldl (fun tmps (t, a) => tmps.setIfInBounds t a) tmps).getD t undef)) ∧ ((ps.zip us).foldl (fun tmps (t, a) => tmps.setIfInBounds t a) tmps).size = tmps.size
  | [], vs, us, env, tmps, _, _, _, h => by simp [bindE]; exact fun t => by simpa using h t
  | p :: ps, [], us, env, tmps, hl, _, _, h => by
    cases us with
    | nil => simp [bindE]; exact fun t => by simpa using h t
    | cons u us => simp at hl
  | p :: ps, v :: vs, us, env, tmps, hl, hr, hp, h => by
    cases us with
    | nil => simp at hl
    | cons u us =>
      simp only [bindE, List.zip_cons_cons, List.foldl_cons]
      have := bindE_rep ps vs us ((p, v) :: env) (tmps.setIfInBounds p u) (by simpa using hl) (fun j v' u' hv hu => hr (j + 1) v' u' (by simpa using hv) (by simpa using hu)) (fun q hq => by simpa using hp q (by simp [hq])) (fun t => by
        rw [lk_cons]
        by_cases hpt : p = t
        · subst hpt
          rw [if_pos rfl, Array.getD_eq_getD_getElem?, Array.getElem?_setIfInBounds_self_of_lt (hp p (by simp))]
          exact hr 0 v u rfl rfl
        · rw [if_neg hpt, Array.getD_eq_getD_getElem?, Array.getElem?_setIfInBounds_ne hpt, ← Array.getD_eq_getD_getElem?]
          exact h t)
      exact ⟨this.1, by rw [this.2]; simp⟩
theorem Conc.lp {B0 : Nat} {Γ : Cx} {w : World} {a : Act} {id b : Nat} {env : List (Nat × V)} {s s' : LoopState} {j j' : Option Code} {R : Loop → Prop} {r : Loop} (hc : Conc N B0 base Γ w st a) (hg : get st.σ id = some (.lp env s j R)) (hb : Γ.ρ id = some b) (hh : w.heap[b]? = some (.loop r)) :
    Conc N B0 base Γ (w.putObj b (.loop { r with state := s', pending := j' })) ⟨st.env, set st.σ id (.lp env s' j' R), st.nx⟩ a := by
  obtain ⟨h1, h2⟩ := set_lp (s' := s') (j' := j') hc.ok hg hb hh
  have hs := (h2 base).same hc.ok
  refine ⟨hc.size, fun t => (hc.env t).mono (CxLe.refl _) hs, h1, hc.free, hc.le, ?_⟩
  obtain ⟨Ds, d1, d2, d3⟩ := hc.dfs
  refine ⟨Ds, d1, ⟨d2.1, Nat.le_trans d2.2 (h2 base).size⟩, fun D hD => ?_⟩
  obtain ⟨d4, d5, d6, d7⟩ := d3 D hD
  have hlt : D < w.heap.size := (Array.getElem?_eq_some_iff.1 d7).1
  refine ⟨d4, d5, fun hl => ?_, ((h2 base).keep D hlt d6).trans d7⟩
  rcases (h2 base).live D hl with h3 | h3
  · exact d6 h3
  · omega
/-- The record of a name. -/
theorem lp_rec {Γ : Cx} {w : World} {σ : Store} {id : Nat} {env : List (Nat × V)} {s : LoopState} {j : Option Code} {R : Loop → Prop} (hok : StoreOk Γ w σ) (hg : get σ id = some (.lp env s j R)) :
    ∃ b r, Γ.ρ id = some b ∧ w.heap[b]? = some (.loop r) ∧ r.state = s ∧ r.pending = j ∧ R { r with state := .ready, pending := none } ∧ ∀ t, RepV Γ w (lk env t) (r.tmps.getD t undef) := by
  obtain ⟨b, hb, _, r, h1, h2, h3, h4, h5⟩ := hok.ok id _ hg
  exact ⟨b, r, hb, h1, h2, h3, h4, h5⟩
theorem Ops.yield {id N' : Nat} {fop : Operand} {xs : List Operand} {env0 : List (Nat × V)} {ps : List Nat} {la lb : LCode} (hg : guardOf st.env i.guard = .run) (hop : i.op = .call fop xs) (hf : evo st.env fop = .c (.yd id))
    (hlp : get st.σ id = some (.lp env0 .ready none (RR P N' ps la lb))) (hlen : ps.length = xs.length) (hra : la.ranges = false) (hrb : lb.ranges = false)
    (h : Sat P N' st.nx la ⟨bindE ps (xs.map (evo st.env)) env0, st.σ, st.nx⟩ fun e st1 => e = .normal ∧ ∃ env1, get st1.σ id = some (.lp env1 .ready none (RR P N' ps la lb)) ∧
      Sat P N' st.nx lb ⟨st1.env, set st1.σ id (.lp env1 .busy none (RR P N' ps la lb)), st1.nx⟩ (roundQ id (RR P N' ps la lb) fun v σ' nx' => Ops P N base rest ⟨putE st.env i.dst v, σ', nx'⟩ K)) :
    Ops P N base (i :: rest) st K := by
  intro ro n B0 own opsA idx os hl hidx Γ0 Γ w0 w σ0' a hc hext
  obtain ⟨o, os', rfl, hi', hl'⟩ := lowList_cons hl
  match idx, hidx with
  | k :: idx, hidx =>
    simp only [List.map_cons, List.cons.injEq] at hidx
    obtain ⟨hk, hidx⟩ := hidx
    obtain ⟨⟨b0, hop'⟩, hdst, hdN, hgd⟩ := lowIns_some hi'
    obtain ⟨c, hoc, hcal, hxs⟩ := low_call (hop' ▸ hop : lowOp P b0 o = .call fop xs)
    have hfr' := hc.ev fop
    rw [hf] at hfr'
    obtain ⟨b, hb, hfu⟩ : ∃ b, Γ.ρ id = some b ∧ a.eval fop = .func (.yield b) #[] #[] := by
      generalize a.eval fop = u at hfr' ⊢
      cases hfr' with | c _ _ h => exact h
    obtain ⟨b', r, hb', hh, hs, hj, hR, henv⟩ := lp_rec hc.ok hlp
    rw [hb] at hb'; cases hb'
    obtain ⟨hRs, hRp, hRl, own', hRa, hRb⟩ := hR
    have hw : Region.wanted o (yielded opsA a.tmps) = true := (guardOf_run (i := i) (σ := st.σ) (nx := st.nx) hg).wanted hc hgd
    have e1 : c.args.size = xs.length := by rw [← hxs]; simp
    have hsz : (c.args.map a.eval).size = r.params.size := by
      have : r.params.toList.length = ps.length := by rw [← hRp]
      simp at this
      simp [e1, this, hlen]
    have hrun : (execOp a.eval o).run P w = .ok (.round b r.fn ((r.params.zip (c.args.map a.eval)).foldl (fun tmps (t, a) => tmps.setIfInBounds t a) r.tmps) r.assign r.body) w := by
      have h1 : (resolve a.eval c o.type).run P w = .ok { target := .fn (.yield b) #[], args := c.args.map a.eval } w := by
        unfold resolve
        simp only [hcal, hfu, Deferred.ofValue]
        simp
      unfold execOp
      simp only [hoc, Sem.run_bind, h1, Result.andThen_ok, invoke]
      exact run_yield hh hsz
    simp only [wpOpsIn, hk, hw, if_true, Oper.wpIn]
    refine ⟨fun _ _ => trivial, ?_⟩
    rw [Oper.semAt_eq _ _ o (fun c' h' => by rw [hoc] at h'; cases h'), hrun, Oper.uponIn_round]
    refine ⟨fun h => by simp [FW, Fence.wide] at h, roundIn_of_wpIn trivial ?_⟩
    -- the round's frame
    obtain ⟨hbr, hbs⟩ := bindE_rep (Γ := Γ) (w := w) ps (xs.map (evo st.env)) ((c.args.map a.eval).toList) env0 r.tmps (by simp [e1]) (fun j v u hv hu => by
      simp only [List.getElem?_map, Option.map_eq_some_iff] at hv
      obtain ⟨x, hx, rfl⟩ := hv
      have hx' : c.args[j]? = some x := by rw [← hxs] at hx; simpa using hx
      simp [hx'] at hu
      subst hu
      exact hc.ev x) (fun p hp => by rw [show r.tmps.size = N' from hRs]; exact hRl p hp) henv
    have hfold : (r.params.zip (c.args.map a.eval)).foldl (fun tmps (t, a) => tmps.setIfInBounds t a) r.tmps = (ps.zip (c.args.map a.eval).toList).foldl (fun tmps (t, a) => tmps.setIfInBounds t a) r.tmps := by
      rw [← Array.foldl_toList, Array.toList_zip]
      rw [show r.params.toList = ps from hRp]
    rw [hfold]
    have hc0 : Conc N' w.heap.size st.nx Γ w ⟨bindE ps (xs.map (evo st.env)) env0, st.σ, st.nx⟩ { tmps := (ps.zip (c.args.map a.eval).toList).foldl (fun tmps (t, a) => tmps.setIfInBounds t a) r.tmps, defers := [] } :=
      ⟨by rw [hbs]; exact hRs, hbr, hc.ok, hc.free, Nat.le_refl _, ⟨[], rfl, ⟨List.nodup_nil, Nat.le_refl _⟩, fun D hD => by cases hD⟩⟩
    refine wpIn_mono (h (some b) (n - 1) w.heap.size own' r.assign (fun hh => by rw [hra] at hh; cases hh) hRa Γ Γ w w st.σ _ hc0 (Ext.refl _ _ _ _)) (fun e a1 w1 hp => ?_)
    obtain ⟨Γ1, st1, hc1, hext1, rfl, env1, hlp1, hbody⟩ := hp
    obtain ⟨b1, r1, hb1, hh1, hs1, hj1, hR1, henv1⟩ := lp_rec hc1.ok hlp1
    have hbb : b1 = b := by
      have hidlt : id < st.nx := by
        rcases Nat.lt_or_ge id st.nx with h2 | h2
        · exact h2
        · rw [hc.free id h2] at hb; cases hb
      rw [hext1.ρ id hidlt, hb] at hb1; cases hb1; rfl
    subst hbb
    have hr1 : ({ r1 with state := .busy } : Loop) = { r1 with state := .busy, pending := none } := by rw [← hj1]
    have hbeg := run_beginRound (P := P) hh1 hs1
    rw [hr1] at hbeg
    have hc2 := hc1.lp (s' := .busy) (j' := none) hlp1 hb1 hh1
    have hext2 : Ext st.nx Γ w st.σ Γ1 _ _ := hext1.trans ((set_lp (s' := .busy) (j' := none) hc1.ok hlp1 hb1 hh1).2 st.nx)
    refine ⟨_, hbeg, wpIn_mono (hbody (some b1) (n - 1) w.heap.size own' r.body (fun hh => by rw [hrb] at hh; cases hh) hRb Γ Γ1 w _ st.σ a1 hc2 hext2) (fun e a2 w2 hp => ?_)⟩
    obtain ⟨Γ2, st2, hc3, hext3, env2, s2, j2, hlp2, hm⟩ := hp
    obtain ⟨b2, r2, hb2, hh2, hs2, hj2, hR2, henv2⟩ := lp_rec hc3.ok hlp2
    have hbb : b2 = b1 := by
      have hidlt : id < st.nx := by
        rcases Nat.lt_or_ge id st.nx with h2 | h2
        · exact h2
        · rw [hc.free id h2] at hb; cases hb
      rw [hext3.ρ id hidlt, hb] at hb2; cases hb2; rfl
    subst hbb
    have hgo : ∀ (jump : Option Code) (v : V) (u : Value), RepV Γ2 (w2.putObj b2 (.loop { r2 with state := if jump.isNone then .ready else .done, pending := jump })) v u → 
        Ops P N base rest ⟨putE st.env i.dst v, set st2.σ id (.lp env2 (if jump.isNone then .ready else .done) jump (RR P N' ps la lb)), st2.nx⟩ K →
        wpOpsIn (FW ro) n P opsA (Post N B0 base Γ0 w0 σ0' fun e st' => e = .normal ∧ K st') idx (a.put o.dst u) (w2.putObj b2 (.loop { r2 with state := if jump.isNone then .ready else .done, pending := jump })) := fun jump v u hv hk => by
      obtain ⟨hst4, hext4⟩ := set_lp (s' := if jump.isNone then .ready else .done) (j' := jump) hc3.ok hlp2 hb2 hh2
      have hext5 := hext3.trans (hext4 st.nx)
      have hc' := hc.putS (dst := o.dst) hdN hv hst4 hext5 hc3.free hc3.le
      exact hk ro n B0 own opsA idx os' hl' hidx Γ0 Γ2 w0 _ σ0' _ (by rw [hdst]; exact hc') (hext.trans (hext5.mono hc.le))
    cases e with
    | normal => exact ⟨_, _, run_endRound none hh2, hgo none (.c .tru) (.bool true) (.c _ _ rfl) hm⟩
    | ret => exact ⟨_, _, run_endRound (some .ret) hh2, hgo (some .ret) (.c .fls) (.bool false) (.c _ _ rfl) hm⟩
    | exit k => exact ⟨_, _, run_endRound (some (.exit k)) hh2, hgo (some (.exit k)) (.c .fls) (.bool false) (.c _ _ rfl) hm⟩
    | _ => exact hm.elim
end
end Go.Pw

namespace Go.Pw
open Go Go.RowKit
/-- The program's regions draw their order of evaluation. -/
abbrev Mix (P : Program) : Prop := Nonempty (PLift (P.follows .mixedOrders = true))
theorem Mix.h {P : Program} (m : Mix P) : P.follows .mixedOrders = true := m.elim fun x => x.down
section
variable {P : Program} {N base : Nat} {M ks : List Nat} {ops : List LIns} {st : St} {Q : Exit → St → Prop}
theorem VEq.bool {a b : Bool} (h : a = b) : VEq (vbl a) (vbl b) := by subst h; exact .refl _
theorem VEq.tru {b : Bool} (h : b = true) : VEq (.c .tru) (vbl b) := by subst h; exact .c _ _ .tru
theorem VEq.fls {b : Bool} (h : b = false) : VEq (.c .fls) (vbl b) := by subst h; exact .c _ _ .fls
theorem VEq.int {k : IntKind} {a b : Int} (h : a = b) : VEq (vi k a) (vi k b) := by subst h; exact .refl _
theorem VEq.sl {s n m : Nat} {f g : Nat → List D} (hn : n = m) (h : ∀ i, i < n → f i = g i) : VEq (.c (.d (.sl s n f))) (.c (.d (.sl s m g))) := by subst hn; exact .c _ _ (.d _ _ (.sl _ _ _ _ h))
end
/-- A cell (a value) that holds no name. -/
def cloC : C → Prop
  | .d _ | .tru | .fls | .rp _ | .z => True
  | .fn _ ids => ids = []
  | _ => False
def cloCs : List C → Prop
  | [] => True
  | c :: cs => cloC c ∧ cloCs cs
def clo : V → Prop
  | .c x => cloC x
  | .agg cs => cloCs cs
  | .unk => True
  | .tup _ => False
theorem cloC.ren {c : C} (h : cloC c) (π : Nat → Nat) (n : Nat) : rnC π c = c ∧ cLt n c := by
  cases c with
  | d | tru | fls | rp | z => exact ⟨rfl, trivial⟩
  | fn f ids => cases (show ids = [] from h); exact ⟨rfl, fun i hi => by cases hi⟩
  | _ => exact h.elim
theorem cloCs.ren : ∀ {cs : List C}, cloCs cs → ∀ (π : Nat → Nat) (n : Nat), cs.map (rnC π) = cs ∧ csLt n cs
  | [], _, _, _ => ⟨rfl, trivial⟩
  | c :: cs, h, π, n => by
    obtain ⟨h1, h2⟩ := cloC.ren h.1 π n
    obtain ⟨h3, h4⟩ := cloCs.ren h.2 π n
    exact ⟨by simp [h1, h3], h2, h4⟩
theorem clo.ren {v : V} (h : clo v) (π : Nat → Nat) (n : Nat) : rnV π v = v ∧ vLt n v := by
  cases v with
  | c x => obtain ⟨h1, h2⟩ := cloC.ren h π n; exact ⟨by simp [rnV, h1], h2⟩
  | agg cs => obtain ⟨h1, h2⟩ := cloCs.ren h π n; exact ⟨by simp [rnV, h1], h2⟩
  | unk => exact ⟨rfl, trivial⟩
  | tup => exact h.elim
def cloL : List V → Prop
  | [] => True
  | v :: vs => clo v ∧ cloL vs
def VEqs : List V → List V → Prop
  | [], [] => True
  | x :: xs, y :: ys => VEq x y ∧ VEqs xs ys
  | _, _ => False
theorem VEqs.length : ∀ {xs ys : List V}, VEqs xs ys → xs.length = ys.length
  | [], [], _ => rfl
  | x :: xs, y :: ys, h => by simp [VEqs.length h.2]
  | [], _ :: _, h => h.elim
  | _ :: _, [], h => h.elim
/-- The slots of a head: what they hold is what it says; none holds a name. -/
def envIs (env : List (Nat × V)) : List (Nat × V) → Prop
  | [] => True
  | (t, v) :: e0 => (VEq (lk env t) v ∧ clo v) ∧ envIs env e0
theorem envIs.ok {env : List (Nat × V)} (π : Nat → Nat) (n : Nat) : ∀ {e0 : List (Nat × V)}, envIs env e0 → envOk n π env e0
  | [], _ => trivial
  | (t, v) :: e0, h => by
    obtain ⟨h1, h2⟩ := clo.ren h.1.2 π n
    exact ⟨⟨by rw [h1]; exact h.1.1, h2⟩, envIs.ok π n h.2⟩
theorem Wk.plain {base : Nat} {st : St} {env0 : List (Nat × V)} {nx0 : Nat} (hb : base ≤ nx0) (h : envIs st.env env0) : Wk base st ⟨env0, [], nx0⟩ id :=
  ⟨fun _ _ => rfl, fun _ _ _ _ h => h, hb, h.ok _ _, stoOk.nil⟩
theorem envIs_arg : ∀ {xs ys : List V} (k : Nat) (env : List (Nat × V)), VEqs xs ys → cloL ys → (∀ i x, xs[i]? = some x → lk env (k + i) = x) → envIs env (argEnv k ys)
  | [], [], _, _, _, _, _ => trivial
  | x :: xs, y :: ys, k, env, h, hc, he => by
    refine ⟨⟨?_, hc.1⟩, envIs_arg (k + 1) env h.2 hc.2 fun i z hz => ?_⟩
    · rw [show lk env k = x from he 0 x rfl]; exact h.1
    · rw [Nat.add_right_comm]; exact he (i + 1) z (by simpa using hz)
  | [], _ :: _, _, _, h, _, _ => h.elim
  | _ :: _, [], _, _, h, _, _ => h.elim
theorem VEqs.refl : ∀ (xs : List V), VEqs xs xs
  | [] => trivial
  | x :: xs => ⟨.refl x, VEqs.refl xs⟩
theorem lk_argEnv0 {vs : List V} {i : Nat} {x : V} (h : vs[i]? = some x) : lk (argEnv 0 vs) (0 + i) = x := by
  rw [lk_argEnv]; simp [h]
theorem RetQ.plain {nx nx' : Nat} {rl : List RL} {vs vs0 : List V} {e : Exit} {st : St} (hle : nx ≤ nx') (he : e = .normal ∨ e = .ret) (hres : resAll st.env st.σ rl = some vs0) (hc : cloL vs) (hv : VEqs vs0 vs) : RetQ nx rl vs [] nx' e st :=
  ⟨he, vs0, hres, hv.length, Mv.weaken (Wk.plain hle (envIs_arg 0 _ hv hc fun _ _ h => lk_argEnv0 h))⟩
/-- The contract of a function of data alone, from its code. -/
theorem PFD.enter {P : Program} {N : Nat} {own : List Nat} {f : FuncId} {fn : Func} {lc : LCode} {rl : List RL} {args : List V} (vs : List V) (hf : P.funcs[f]? = some fn) (hent : Ent1 P f) (hlow : lowF P own fn = some (N, lc, rl)) (hN : args.length ≤ N)
    (hc : cloL args) (h : Sat P N 0 lc ⟨argEnv 0 args, [], 0⟩ (RetQ 0 rl vs [] 0)) : PFD P f args (retV vs) :=
  ⟨CallD.enter hf hent hlow hN (Nat.le_refl _) (Wk.plain (Nat.le_refl _) (envIs_arg 0 _ (VEqs.refl _) hc fun _ _ h => lk_argEnv0 h)) h⟩
def loop0Q {ι : Type} (inv : ι → List (Nat × V)) (pre : ι → Prop) (μ : ι → Nat) (i : ι) (Q : Exit → St → Prop) : Exit → St → Prop
  | .normal, st' => ∃ j, pre j ∧ μ j < μ i ∧ envIs st'.env (inv j)
  | e, st' => Q e st'
/-- A loop whose head holds no names: a family of heads, a measure that each round lowers. -/
theorem Sat.loop0 {P : Program} {N base : Nat} {x : LCode} {st : St} {Q : Exit → St → Prop} {ι : Type} (inv : ι → List (Nat × V)) (pre : ι → Prop) (μ : ι → Nat) (i0 : ι) (h0 : pre i0) (hw : envIs st.env (inv i0))
    (round : ∀ i, pre i → Sat P N base x ⟨inv i, [], base⟩ (loop0Q inv pre μ i Q)) : Sat P N base (.loop x) st Q := by
  refine Sat.loop (fun i => ⟨inv i, [], base⟩) pre μ i0 id h0 (Wk.plain (Nat.le_refl _) hw) fun i hi => (round i hi).mono fun e st' h => ?_
  cases e with
  | normal =>
    obtain ⟨j, h1, h2, h3⟩ := h
    exact ⟨j, id, h1, h2, Wk.plain (Nat.le_refl _) h3⟩
  | _ => exact h
def dd : List (Nat × V) → List Nat → List (Nat × V)
  | [], _ => []
  | (t, v) :: e, seen => match memN t seen with
    | true => dd e seen
    | false => match v with
      | .unk => dd e (t :: seen)
      | v => (t, v) :: dd e (t :: seen)
theorem lk_dd : ∀ (e : List (Nat × V)) (seen : List Nat) (t : Nat), t ∉ seen → lk (dd e seen) t = lk e t
  | [], _, _, _ => rfl
  | (a, v) :: e, seen, t, h => by
    simp only [dd]
    split
    · rename_i hm
      have : a ≠ t := fun hh => h (hh ▸ memN_iff.1 hm)
      rw [lk_cons, if_neg this]; exact lk_dd e seen t h
    · split
      · rw [lk_cons]
        split
        · rename_i hat
          subst hat
          have : ∀ (e : List (Nat × V)) (seen : List Nat), a ∈ seen → lk (dd e seen) a = .unk := by
            intro e
            induction e with
            | nil => intro _ _; rfl
            | cons p e ih =>
              obtain ⟨b, x⟩ := p
              intro seen hs
              simp only [dd]
              split
              · exact ih _ hs
              · rename_i hm
                have hb : b ≠ a := fun hh => by rw [hh, memN_iff.2 hs] at hm; cases hm
                split
                · exact ih _ (by simp [hs])
                · rw [lk_cons, if_neg hb]; exact ih _ (by simp [hs])
          exact this e _ (by simp)
        · rename_i hat; exact lk_dd e _ t (by simp [h, Ne.symm hat])
      · rw [lk_cons, lk_cons]
        split
        · rfl
        · rename_i hat; exact lk_dd e _ t (by simp [h, Ne.symm hat])
theorem Sat.dd {P : Program} {N base : Nat} {x : LCode} {env : List (Nat × V)} {σ : Store} {nx : Nat} {Q : Exit → St → Prop} (h : Sat P N base x ⟨dd env [], σ, nx⟩ Q) : Sat P N base x ⟨env, σ, nx⟩ Q := by
  intro ro n B0 own code hro hl Γ0 Γ w0 w σ0 a hc hext
  exact h ro n B0 own code hro hl Γ0 Γ w0 w σ0 a (hc.same (fun t => by rw [lk_dd _ _ _ (by simp)]; exact RI.refl _) (fun _ => rfl)) hext
end Go.Pw

namespace Go.Pw
open Go Go.RowKit
structure Owe (p q : Prop) : Prop where
  l : p
  r : q
structure Fork (b : Bool) (p q : Prop) : Prop where
  t : b = true → p
  f : b = false → q
theorem Fork.dec {x p q : Prop} [h : Decidable x] (h1 : x → p) (h2 : ¬ x → q) : Fork (decide x) p q := ⟨fun h => h1 (of_decide_eq_true h), fun h => h2 (of_decide_eq_false h)⟩
theorem Fork.ndec {x p q : Prop} [h : Decidable x] (h1 : ¬ x → p) (h2 : x → q) : Fork (!decide x) p q := ⟨fun h => h1 (by simpa using h), fun h => h2 (by simpa using h)⟩
def flush : Option Prop → Prop → Prop
  | none, q => q
  | some p, q => Owe p q
def andO : Option Prop → Prop → Option Prop
  | none, q => some q
  | some p, q => some (p ∧ q)
def okO : Option Prop → Prop
  | none => True
  | some p => p
theorem flush_iff {p : Option Prop} {q : Prop} (h : flush p q) : okO p ∧ q := by
  cases p with
  | none => exact ⟨trivial, h⟩
  | some p => exact ⟨h.l, h.r⟩
theorem okO_and {p : Option Prop} {q : Prop} (h : okO (andO p q)) : okO p ∧ q := by
  cases p with
  | none => exact ⟨trivial, h⟩
  | some p => exact h
def owesB : BinOp → Bool
  | .add | .sub | .mul | .quo | .rem | .shl | .shr => true
  | _ => false
/-- The operation may owe something. -/
def owes (ev : Operand → V) : LOp → Bool
  | .bin op _ _ => owesB op
  | .un .neg _ => true
  | .un _ _ => false
  | .load _ _ a => match ev a with
    | .c (.ep _ _ _ _) => true
    | _ => false
  | .store _ a _ => match ev a with
    | .c (.ep _ _ _ _) => true
    | _ => false
  | .mv _ | .nilc _ | .pick _ _ _ | .alloc _ | .box _ | .build _ _ | .eqA _ _ _ _ | .eqB _ _ _ | .mkfn _ _ | .fld _ _ | .part _ _ _ _ | .ext _ _ | .len _ | .lenS _ | .mm _ _ | .binW _ _ _ => false
  | _ => true
theorem bld_some {R : Type} {ev : Operand → V} : ∀ (ps : List (Nat × Nat × Operand)) (cs : List C) (k : List C → Option R) (r : R), bld ev ps cs k = some r → ∃ cs', k cs' = some r
  | [], cs, k, r, h => ⟨cs, h⟩
  | (off, n, x) :: ps, cs, k, r, h => by
    simp only [bld] at h
    split at h
    · split at h
      · rw [frc_eq] at h; exact bld_some ps _ k r h
      · cases h
    · cases h
theorem eqR_some {R : Type} : ∀ (xs ys : List C) (a : Bool) (k : Bool → Option R) (r : R), eqR xs ys a k = some r → ∃ b, k b = some r := by
  intro xs
  induction xs with
  | nil => intro ys a k r h; cases ys <;> simp [eqR] at h; exact ⟨_, h⟩
  | cons x xs ih =>
    intro ys a k r h
    cases ys with
    | nil => simp [eqR] at h
    | cons y ys =>
      unfold eqR at h
      split at h
      · rename_i h1 _; cases h1
      · rename_i h1 h2
        simp only [List.cons.injEq] at h1 h2
        obtain ⟨_, rfl⟩ := h1
        obtain ⟨_, rfl⟩ := h2
        split at h
        · exact ih _ _ _ _ h
        · cases h
      · cases h
theorem eqC_some {R : Type} {xs ys : List C} {k : Bool → Option R} {r : R} (h : eqC xs ys k = some r) : ∃ b, k b = some r := by
  unfold eqC at h
  split at h
  · split at h
    · exact eqR_some _ _ _ _ _ h
    · cases h
  · cases h
theorem owes_false {ev : Operand → V} {σ σ' : Store} {nx nx' : Nat} {op : LOp} {ob : Prop} {v : V} (hw : owes ev op = false) (h : xop ev σ nx op = some (ob, v, σ', nx')) : ob := by
  have fin : ∀ {ob : Prop} {v0 : V} {σ0 : Store} {nx0 : Nat} {r : Res}, (some (True, v0, σ0, nx0) : Option Res) = some r → r.1 := fun h => by cases h; trivial
  cases op with
  | mv x => simp only [xop] at h; split at h <;> first | (cases h; trivial) | cases h
  | nilc x => simp only [xop] at h; split at h <;> first | (cases h; trivial) | cases h
  | pick c a b =>
    simp only [xop] at h
    split at h
    · split at h <;> first | (cases h; trivial) | cases h
    · split at h <;> first | (cases h; trivial) | cases h
    · cases h
  | alloc z => simp only [xop, zeros_eq] at h; cases h; trivial
  | box x => simp only [xop] at h; split at h <;> first | (cases h; trivial) | cases h
  | build z ps =>
    simp only [xop, zeros_eq] at h
    obtain ⟨_, h⟩ := bld_some _ _ _ _ h
    cases h; trivial
  | store n a x =>
    simp only [owes] at hw
    simp only [xop, frc_eq, frs_eq] at h
    split at h
    · (repeat' split at h) <;> first | (cases h; trivial) | cases h
    · rename_i he; rw [he] at hw; cases hw
    · cases h
  | eqA neg n x y =>
    simp only [xop] at h
    split at h
    · split at h
      · obtain ⟨_, h⟩ := eqC_some h
        split at h <;> (cases h; trivial)
      · cases h
    · cases h
  | eqB neg x y =>
    simp only [xop] at h
    obtain ⟨_, h, _⟩ := vbool_some h
    obtain ⟨_, h, _⟩ := vbool_some h
    split at h <;> (cases h; trivial)
  | un o x =>
    cases o with
    | neg => simp [owes] at hw
    | not => simp only [xop] at h; split at h <;> first | (cases h; trivial) | cases h | (rename_i hh _; cases hh)
    | _ => simp only [xop] at h; cases h
  | mkfn f caps =>
    simp only [xop] at h
    obtain ⟨_, _, _, h⟩ := ids_some _ _ _ h
    cases h; trivial
  | fld o x => simp only [xop] at h; split at h <;> first | (cases h; trivial) | cases h
  | part g o n x =>
    simp only [xop] at h
    split at h
    · split at h
      · obtain ⟨_, h⟩ := tkc_some _ _ _ _ h; cases h; trivial
      · split at h <;> first | (cases h; trivial) | cases h
    · cases h
  | ext x i => simp only [xop] at h; (repeat' split at h) <;> first | (cases h; trivial) | cases h
  | len x => simp only [xop] at h; (repeat' split at h) <;> first | (cases h; trivial) | cases h
  | lenS x => simp only [xop] at h; (repeat' split at h) <;> first | (cases h; trivial) | cases h
  | mm g xs => simp only [xop] at h; (repeat' split at h) <;> first | (cases h; trivial) | cases h
  | bin o x y =>
    simp only [owes] at hw
    simp only [xop] at h
    split at h
    · split at h
      · rename_i ha
        cases h
        unfold binV at ha
        split at ha
        · rename_i hs; cases o <;> simp [isShift] at hs <;> simp [owesB] at hw
        · split at ha
          · cases o <;> simp [owesB] at hw <;> simp only [arith, Option.some.injEq, Prod.mk.injEq, reduceCtorEq] at ha <;> first | exact ha.1 ▸ trivial | exact ha.elim
          · cases ha
      · cases h
    · cases h
  | binW o x y => simp only [xop] at h; (repeat' split at h) <;> first | (cases h; trivial) | cases h
  | load g n a =>
    simp only [owes] at hw
    simp only [xop] at h
    split at h
    · split at h
      · split at h
        · obtain ⟨_, h⟩ := tkc_some _ _ _ _ h; cases h; trivial
        · split at h <;> first | (cases h; trivial) | cases h
      · cases h
    · split at h
      · obtain ⟨_, h⟩ := tkd_some _ _ _ _ h; cases h; trivial
      · split at h <;> first | (cases h; trivial) | cases h
    · rename_i he; rw [he] at hw; simp at hw
    · cases h
  | _ => simp [owes] at hw
section
variable (P : Program) (N base : Nat)
/-- A number, forced. -/
def frNat {R : Type} (n : Nat) (k : Nat → R) : R :=
  match n with
  | 0 => k 0
  | m + 1 => k (m + 1)
theorem frNat_eq {R : Type} (n : Nat) (k : Nat → R) : frNat n k = k n := by cases n <;> rfl
def newName : LOp → Bool
  | .alloc _ | .box _ => true
  | .lit own _ _ _ => own
  | .make own _ _ _ _ _ => own
  | .append own _ _ _ _ _ => own
  | _ => false
def putK {R : Type} (dst : Option Nat) (v : V) (env : List (Nat × V)) (k : List (Nat × V) → R) : R :=
  match dst with
  | some d => k ((d, v) :: env)
  | none => k env
theorem putK_eq {R : Type} {dst : Option Nat} {v : V} {env : List (Nat × V)} {k : List (Nat × V) → R} : putK dst v env k = k (putE env dst v) := by cases dst <;> rfl
/-- Where the walk stops at a call. -/
structure OpsL (ops : List LIns) (st : St) (K : St → Prop) : Prop where
  h : Ops P N base ops st K
def runI (i : LIns) (env : List (Nat × V)) (σ : Store) (nx : Nat) (p : Option Prop) (k : List (Nat × V) → Store → Nat → Option Prop → Prop) (stuck : Prop) : Prop :=
  match xop (evo env) σ nx i.op with
  | some (ob, v, σ', nx') => match owes (evo env) i.op with
    | true => match newName i.op with
      | true => frNat nx' fun nx' => putK i.dst v env fun env' => k env' σ' nx' (andO p ob)
      | false => putK i.dst v env fun env' => k env' σ' nx' (andO p ob)
    | false => match newName i.op with
      | true => frNat nx' fun nx' => putK i.dst v env fun env' => k env' σ' nx' p
      | false => putK i.dst v env fun env' => k env' σ' nx' p
  | none => flush p stuck
def wpOps : List LIns → List (Nat × V) → Store → Nat → Option Prop → (St → Prop) → Prop
  | [], env, σ, nx, p, K => flush p (K ⟨env, σ, nx⟩)
  | i :: os, env, σ, nx, p, K => match guardOf env i.guard with
    | .run => runI i env σ nx p (fun env σ nx p => wpOps os env σ nx p K) (OpsL P N base (i :: os) ⟨env, σ, nx⟩ K)
    | .skip => putK i.dst (.tup []) env fun env => wpOps os env σ nx p K
    | .stop => match i.guard with
      | some (t, want) => match lk env t with
        | .c (.d (.v (.bool b))) => match want with
          | true => flush p (Fork b (runI i ((t, .c .tru) :: env) σ nx none (fun env σ nx p => wpOps os env σ nx p K) (OpsL P N base (i :: os) ⟨(t, .c .tru) :: env, σ, nx⟩ K))
              (putK i.dst (.tup []) ((t, .c .fls) :: env) fun env => wpOps os env σ nx none K))
          | false => flush p (Fork b (putK i.dst (.tup []) ((t, .c .tru) :: env) fun env => wpOps os env σ nx none K)
              (runI i ((t, .c .fls) :: env) σ nx none (fun env σ nx p => wpOps os env σ nx p K) (OpsL P N base (i :: os) ⟨(t, .c .fls) :: env, σ, nx⟩ K)))
        | _ => flush p (OpsL P N base (i :: os) ⟨env, σ, nx⟩ K)
      | none => flush p (OpsL P N base (i :: os) ⟨env, σ, nx⟩ K)
variable {P N base}
theorem runI_spec {i : LIns} {os : List LIns} {env : List (Nat × V)} {σ : Store} {nx : Nat} {p : Option Prop} {K : St → Prop} (hg : guardOf env i.guard = .run)
    (ih : ∀ env σ nx p, wpOps P N base os env σ nx p K → okO p ∧ Ops P N base os ⟨env, σ, nx⟩ K)
    (h : runI i env σ nx p (fun env σ nx p => wpOps P N base os env σ nx p K) (OpsL P N base (i :: os) ⟨env, σ, nx⟩ K)) : okO p ∧ Ops P N base (i :: os) ⟨env, σ, nx⟩ K := by
  unfold runI at h
  split at h
  · rename_i ob v σ' nx' hx
    simp only [frNat_eq, putK_eq] at h
    have hgo : ∀ p', wpOps P N base os (putE env i.dst v) σ' nx' p' K → (okO p' → okO p ∧ ob) → okO p ∧ Ops P N base (i :: os) ⟨env, σ, nx⟩ K := fun p' h hp => by
      obtain ⟨h1, h2⟩ := ih _ _ _ _ h
      obtain ⟨h3, h4⟩ := hp h1
      exact ⟨h3, Ops.step (st := ⟨env, σ, nx⟩) (guardOf_run hg) hx h4 h2⟩
    split at h
    · split at h
      · exact hgo _ h okO_and
      · exact hgo _ h okO_and
    · rename_i hw
      split at h
      · exact hgo _ h fun hp => ⟨hp, owes_false hw hx⟩
      · exact hgo _ h fun hp => ⟨hp, owes_false hw hx⟩
  · exact ⟨(flush_iff h).1, (flush_iff h).2.h⟩
theorem Ops.know' {ops : List LIns} {env : List (Nat × V)} {σ : Store} {nx : Nat} {K : St → Prop} (t : Nat) (b : Bool) (h : lk env t = vbl b) (hf : Fork b (Ops P N base ops ⟨(t, .c .tru) :: env, σ, nx⟩ K) (Ops P N base ops ⟨(t, .c .fls) :: env, σ, nx⟩ K)) : Ops P N base ops ⟨env, σ, nx⟩ K :=
  Ops.know (st := ⟨env, σ, nx⟩) t b h hf.t hf.f
theorem wpOps_spec : ∀ (ops : List LIns) (env : List (Nat × V)) (σ : Store) (nx : Nat) (p : Option Prop) (K : St → Prop), wpOps P N base ops env σ nx p K → okO p ∧ Ops P N base ops ⟨env, σ, nx⟩ K
  | [], env, σ, nx, p, K, h => by
    obtain ⟨h1, h2⟩ := flush_iff h
    exact ⟨h1, Ops.nil h2⟩
  | i :: os, env, σ, nx, p, K, h => by
    have ih := fun env σ nx p => wpOps_spec os env σ nx p K
    have hskip : ∀ env, guardOf env i.guard = .skip → ∀ p, (putK i.dst (.tup []) env fun env => wpOps P N base os env σ nx p K) → okO p ∧ Ops P N base (i :: os) ⟨env, σ, nx⟩ K := fun env hg p h => by
      rw [putK_eq] at h
      obtain ⟨h1, h2⟩ := ih _ _ _ _ h
      exact ⟨h1, Ops.skip (st := ⟨env, σ, nx⟩) (guardOf_skip hg) h2⟩
    unfold wpOps at h
    split at h
    · rename_i hg; exact runI_spec hg ih h
    · rename_i hg; exact hskip env hg p h
    · rename_i hg
      split at h
      · rename_i t want hgu
        have gT : guardOf ((t, .c .tru) :: env) i.guard = (match want with | true => .run | false => .skip) := by
          cases want <;> simp [hgu, guardOf, lk_cons]
        have gF : guardOf ((t, .c .fls) :: env) i.guard = (match want with | true => .skip | false => .run) := by
          cases want <;> simp [hgu, guardOf, lk_cons]
        split at h
        · rename_i b hb
          split at h
          · obtain ⟨h1, h2⟩ := flush_iff h
            exact ⟨h1, Ops.know' t b hb ⟨fun hh => (runI_spec gT ih (h2.t hh)).2, fun hh => (hskip _ gF _ (h2.f hh)).2⟩⟩
          · obtain ⟨h1, h2⟩ := flush_iff h
            exact ⟨h1, Ops.know' t b hb ⟨fun hh => (hskip _ gT _ (h2.t hh)).2, fun hh => (runI_spec gF ih (h2.f hh)).2⟩⟩
        · exact ⟨(flush_iff h).1, (flush_iff h).2.h⟩
      · exact ⟨(flush_iff h).1, (flush_iff h).2.h⟩
theorem Ops.wp {ops : List LIns} {env : List (Nat × V)} {σ : Store} {nx : Nat} {K : St → Prop} (h : wpOps P N base ops env σ nx none K) : Ops P N base ops ⟨env, σ, nx⟩ K := (wpOps_spec _ _ _ _ _ _ h).2
end
end Go.Pw

namespace Go.Pw
open Go Go.RowKit
section
variable (P : Program) (N base : Nat) (M : List Nat)
def isLoad : LOp → Bool
  | .load _ _ _ => true
  | _ => false
theorem load_same {ev : Operand → V} {σ σ' : Store} {nx nx' : Nat} {op : LOp} {ob : Prop} {v : V} (hl : isLoad op = true) (h : xop ev σ nx op = some (ob, v, σ', nx')) : σ' = σ := by
  cases op with
  | load g n a =>
    simp only [xop] at h
    split at h
    · split at h
      · split at h
        · obtain ⟨_, h⟩ := tkc_some _ _ _ _ h; cases h; rfl
        · split at h <;> first | (cases h; rfl) | cases h
      · cases h
    · split at h
      · obtain ⟨_, h⟩ := tkd_some _ _ _ _ h; cases h; rfl
      · split at h <;> first | (cases h; rfl) | cases h
    · split at h
      · split at h
        · split at h
          · obtain ⟨_, h⟩ := tkd_some _ _ _ _ h; cases h; rfl
          · split at h <;> first | (cases h; rfl) | cases h
        · cases h
      · cases h
    · cases h
  | _ => simp [isLoad] at hl
def runID (i : LIns) (env : List (Nat × V)) (σ : Store) (nx : Nat) (p : Option Prop) (acc : List (Bool × List Nat)) (k : List (Nat × V) → Store → Nat → Option Prop → List (Bool × List Nat) → Prop) (stuck : Prop) : Prop :=
  match xop (evo env) (pickS σ (foot (evo env) i.op)) nx i.op with
  | some (ob, v, σ1, _) => match owes (evo env) i.op with
    | true => match foot (evo env) i.op, σ1 with
      | [], [] => frNat (nx + 1) fun nx' => putK i.dst v env fun env' => k env' σ nx' (andO p ob) ((true, []) :: acc)
      | ft, σ1 => frS (app (pickS σ ft) σ1 σ) fun σ' => frN (dom (pickS σ ft) ++ dom σ1) fun fp => frNat (nx + 1) fun nx' => putK i.dst v env fun env' => k env' σ' nx' (andO p ob) ((isLoad i.op, fp) :: acc)
    | false => match foot (evo env) i.op, σ1 with
      | [], [] => frNat (nx + 1) fun nx' => putK i.dst v env fun env' => k env' σ nx' p ((true, []) :: acc)
      | ft, σ1 => frS (app (pickS σ ft) σ1 σ) fun σ' => frN (dom (pickS σ ft) ++ dom σ1) fun fp => frNat (nx + 1) fun nx' => putK i.dst v env fun env' => k env' σ' nx' p ((isLoad i.op, fp) :: acc)
  | none => flush p stuck
abbrev OpsD' (ops : List LIns) (st : St) (acc : List (Bool × List Nat)) (K : St → Prop) : Prop := OpsD P N base M 0 [] ops st acc K
structure OpsDL (ops : List LIns) (st : St) (acc : List (Bool × List Nat)) (K : St → Prop) : Prop where
  h : OpsD P N base M 0 [] ops st acc K
def wpD : List LIns → List (Nat × V) → Store → Nat → Option Prop → List (Bool × List Nat) → (St → Prop) → Prop
  | [], env, σ, nx, p, acc, K => match fpAll M 0 acc.reverse with
    | true => flush p (K ⟨env, σ, nx⟩)
    | false => False
  | i :: os, env, σ, nx, p, acc, K => match guardOf env i.guard with
    | .run => runID i env σ nx p acc (fun env σ nx p acc => wpD os env σ nx p acc K) (OpsDL P N base M (i :: os) ⟨env, σ, nx⟩ acc K)
    | .skip => putK i.dst (.tup []) env fun env => wpD os env σ nx p ((true, []) :: acc) K
    | .stop => match i.guard with
      | some (t, want) => match lk env t with
        | .c (.d (.v (.bool b))) => match want with
          | true => flush p (Fork b (runID i ((t, .c .tru) :: env) σ nx none acc (fun env σ nx p acc => wpD os env σ nx p acc K) (OpsDL P N base M (i :: os) ⟨(t, .c .tru) :: env, σ, nx⟩ acc K))
              (putK i.dst (.tup []) ((t, .c .fls) :: env) fun env => wpD os env σ nx none ((true, []) :: acc) K))
          | false => flush p (Fork b (putK i.dst (.tup []) ((t, .c .tru) :: env) fun env => wpD os env σ nx none ((true, []) :: acc) K)
              (runID i ((t, .c .fls) :: env) σ nx none acc (fun env σ nx p acc => wpD os env σ nx p acc K) (OpsDL P N base M (i :: os) ⟨(t, .c .fls) :: env, σ, nx⟩ acc K)))
        | _ => flush p (OpsDL P N base M (i :: os) ⟨env, σ, nx⟩ acc K)
      | none => flush p (OpsDL P N base M (i :: os) ⟨env, σ, nx⟩ acc K)
variable {P N base M}
theorem runID_spec {i : LIns} {os : List LIns} {env : List (Nat × V)} {σ : Store} {nx : Nat} {p : Option Prop} {acc : List (Bool × List Nat)} {K : St → Prop} (hg : guardOf env i.guard = .run)
    (ih : ∀ env σ nx p acc, wpD P N base M os env σ nx p acc K → okO p ∧ OpsD' P N base M os ⟨env, σ, nx⟩ acc K)
    (h : runID i env σ nx p acc (fun env σ nx p acc => wpD P N base M os env σ nx p acc K) (OpsDL P N base M (i :: os) ⟨env, σ, nx⟩ acc K)) : okO p ∧ OpsD' P N base M (i :: os) ⟨env, σ, nx⟩ acc K := by
  unfold runID at h
  split at h
  · rename_i ob v σ1 nx1 hx
    simp only [frNat_eq, putK_eq, frS_eq, frN_eq] at h
    have hgo : ∀ (rd : Bool) p', (rd = true → σ1 = pickS σ (foot (evo env) i.op)) → wpD P N base M os (putE env i.dst v) (app (pickS σ (foot (evo env) i.op)) σ1 σ) (nx + 1) p' ((rd, dom (pickS σ (foot (evo env) i.op)) ++ dom σ1) :: acc) K → (okO p' → okO p ∧ ob) → okO p ∧ OpsD' P N base M (i :: os) ⟨env, σ, nx⟩ acc K := fun rd p' hrd h hp => by
      obtain ⟨h1, h2⟩ := ih _ _ _ _ _ h
      obtain ⟨h3, h4⟩ := hp h1
      exact ⟨h3, OpsD.step (k := 0) (st := ⟨env, σ, nx⟩) (VStep.xop hg hx h4) (pickS_sub _) (Nat.le_refl _) (Nat.le_succ _) rd hrd h2⟩
    split at h
    · split at h
      · rename_i hft
        have := fun p' => hgo true p' (fun _ => by rw [hft]; rfl)
        simp only [hft, pickS, app, catS, dom, delD, List.append_nil] at this
        exact this _ h okO_and
      · exact hgo _ _ (fun hl => load_same hl hx) h okO_and
    · rename_i hw
      split at h
      · rename_i hft
        have := fun p' => hgo true p' (fun _ => by rw [hft]; rfl)
        simp only [hft, pickS, app, catS, dom, delD, List.append_nil] at this
        exact this _ h fun hp => ⟨hp, owes_false hw hx⟩
      · exact hgo _ _ (fun hl => load_same hl hx) h fun hp => ⟨hp, owes_false hw hx⟩
  · exact ⟨(flush_iff h).1, (flush_iff h).2.h⟩
theorem OpsD.know' {ops : List LIns} {env : List (Nat × V)} {σ : Store} {nx : Nat} {acc : List (Bool × List Nat)} {K : St → Prop} (t : Nat) (b : Bool) (h : lk env t = vbl b) (hf : Fork b (OpsD' P N base M ops ⟨(t, .c .tru) :: env, σ, nx⟩ acc K) (OpsD' P N base M ops ⟨(t, .c .fls) :: env, σ, nx⟩ acc K)) : OpsD' P N base M ops ⟨env, σ, nx⟩ acc K :=
  OpsD.know (st := ⟨env, σ, nx⟩) t b h hf.t hf.f
theorem wpD_spec : ∀ (ops : List LIns) (env : List (Nat × V)) (σ : Store) (nx : Nat) (p : Option Prop) (acc : List (Bool × List Nat)) (K : St → Prop), wpD P N base M ops env σ nx p acc K → okO p ∧ OpsD' P N base M ops ⟨env, σ, nx⟩ acc K
  | [], env, σ, nx, p, acc, K, h => by
    unfold wpD at h
    split at h
    · rename_i hf
      obtain ⟨h1, h2⟩ := flush_iff h
      exact ⟨h1, OpsD.nil hf h2⟩
    · exact h.elim
  | i :: os, env, σ, nx, p, acc, K, h => by
    have ih := fun env σ nx p acc => wpD_spec os env σ nx p acc K
    have hskip : ∀ env, guardOf env i.guard = .skip → ∀ p, (putK i.dst (.tup []) env fun env => wpD P N base M os env σ nx p ((true, []) :: acc) K) → okO p ∧ OpsD' P N base M (i :: os) ⟨env, σ, nx⟩ acc K := fun env hg p h => by
      rw [putK_eq] at h
      obtain ⟨h1, h2⟩ := ih _ _ _ _ _ h
      exact ⟨h1, OpsD.step (k := 0) (σ0 := []) (σ1 := []) (st := ⟨env, σ, nx⟩) (VStep.skip (lo := nx) hg) (fun id e h => by simp [get] at h) (Nat.le_refl _) (Nat.le_refl _) true (fun _ => rfl) h2⟩
    unfold wpD at h
    split at h
    · rename_i hg; exact runID_spec hg ih h
    · rename_i hg; exact hskip env hg p h
    · rename_i hg
      split at h
      · rename_i t want hgu
        have gT : guardOf ((t, .c .tru) :: env) i.guard = (match want with | true => .run | false => .skip) := by
          cases want <;> simp [hgu, guardOf, lk_cons]
        have gF : guardOf ((t, .c .fls) :: env) i.guard = (match want with | true => .skip | false => .run) := by
          cases want <;> simp [hgu, guardOf, lk_cons]
        split at h
        · rename_i b hb
          split at h
          · obtain ⟨h1, h2⟩ := flush_iff h
            exact ⟨h1, OpsD.know' t b hb ⟨fun hh => (runID_spec gT ih (h2.t hh)).2, fun hh => (hskip _ gF _ (h2.f hh)).2⟩⟩
          · obtain ⟨h1, h2⟩ := flush_iff h
            exact ⟨h1, OpsD.know' t b hb ⟨fun hh => (hskip _ gT _ (h2.t hh)).2, fun hh => (runID_spec gF ih (h2.f hh)).2⟩⟩
        · exact ⟨(flush_iff h).1, (flush_iff h).2.h⟩
      · exact ⟨(flush_iff h).1, (flush_iff h).2.h⟩
theorem OpsD.wp {ops : List LIns} {env : List (Nat × V)} {σ : Store} {nx : Nat} {acc : List (Bool × List Nat)} {K : St → Prop} (h : wpD P N base M ops env σ nx none acc K) : OpsD' P N base M ops ⟨env, σ, nx⟩ acc K := (wpD_spec _ _ _ _ _ _ _ h).2
end
theorem Mv.nilms {base : Nat} {env : List (Nat × V)} {σ : Store} {nx : Nat} (t : Nat) (e : TypeId) (s : Nat) (f : Nat → List D) (h : lk env t = .c (.d (.v (.slice none 0 0)))) : Mv base ⟨env, σ, nx⟩ ⟨(t, .c (.ms nx 0)) :: env, (nx, .row e s 0 f false) :: σ, nx + 1⟩ :=
  fun _ _ _ _ _ hc => hc.nilms (st := ⟨env, σ, nx⟩) e s f h
theorem Mv.freeze {base : Nat} {env : List (Nat × V)} {σ : Store} {nx : Nat} (t id : Nat) {n : Nat} {e : TypeId} {s m : Nat} {f : Nat → List D} {fz : Bool} (h : lk env t = .c (.ms id n)) (hg : get σ id = some (.row e s m f fz)) (hn : n ≤ m) :
    Mv base ⟨env, σ, nx⟩ ⟨(t, .c (.d (.sl s n f))) :: env, set σ id (.row e s m f true), nx⟩ := fun N B0 Γ w a hc => by
  obtain ⟨Γ', b, hb, rfl, h1, h2⟩ := hc.freeze hg
  refine ⟨_, ⟨h1.size, fun t' => ?_, h1.ok, h1.free, h1.le, h1.dfs⟩, h2⟩
  rw [lk_cons]
  split
  · rename_i ht
    subst ht
    have := hc.env t
    rw [h] at this
    cases this with
    | c _ _ hr =>
      obtain ⟨b', hb', hd⟩ := ms_data hc.ok hg hn hr
      rw [hb] at hb'; cases hb'
      exact .c _ _ (hd _ (fun k hk => .inl hk) (fun hcc => .inr ⟨rfl, hcc⟩))
  · exact h1.env t'
/-- Slots say less. -/
theorem Mv.env {base : Nat} {env env' : List (Nat × V)} {σ : Store} {nx : Nat} (h : ∀ t, RI (lk env t) (lk env' t)) : Mv base ⟨env, σ, nx⟩ ⟨env', σ, nx⟩ := fun _ _ Γ _ _ hc => ⟨Γ, hc.same h fun _ => rfl, Ext.refl _ _ _ _⟩
theorem Mv.dd {base : Nat} {env : List (Nat × V)} {σ : Store} {nx : Nat} : Mv base ⟨env, σ, nx⟩ ⟨Pw.dd env [], σ, nx⟩ :=
  Mv.env fun t => by rw [lk_dd _ _ _ (by simp)]; exact RI.refl _
structure MvQ (base : Nat) (Q : Exit → St → Prop) (e : Exit) (st : St) : Prop where
  h : ∃ st1, Mv base st st1 ∧ Q e st1
section
variable {P : Program} {N base : Nat} {st st1 : St} {Q : Exit → St → Prop} {x : LCode}
theorem Sat.mv (h : Sat P N base x st (MvQ base Q)) : Sat P N base x st Q := by
  intro ro n B0 own code hro hl Γ0 Γ w0 w σ0 a hc hext
  refine wpIn_mono (h ro n B0 own code hro hl Γ0 Γ w0 w σ0 a hc hext) (fun e a' w' ⟨Γ', st', h1, h2, ⟨st2, h3, h4⟩⟩ => ?_)
  obtain ⟨Γ'', h5, h6⟩ := h3 _ _ _ _ _ h1
  exact ⟨Γ'', st2, h5, h2.trans h6, h4⟩
theorem Sat.from (hm : Mv base st st1) (h : Sat P N base x st1 Q) : Sat P N base x st Q := by
  intro ro n B0 own code hro hl Γ0 Γ w0 w σ0 a hc hext
  obtain ⟨Γ', h1, h2⟩ := hm _ _ _ _ _ hc
  exact h ro n B0 own code hro hl Γ0 Γ' w0 w σ0 a h1 (hext.trans h2)
theorem Ops.from {ops : List LIns} {K : St → Prop} (hm : Mv base st st1) (h : Ops P N base ops st1 K) : Ops P N base ops st K := by
  intro ro n B0 own opsA idx os hl hidx Γ0 Γ w0 w σ0 a hc hext
  obtain ⟨Γ', h1, h2⟩ := hm _ _ _ _ _ hc
  exact h ro n B0 own opsA idx os hl hidx Γ0 Γ' w0 w σ0 a h1 (hext.trans h2)
theorem MvQ.stay {e : Exit} (h : Q e st) : MvQ base Q e st := ⟨st, Mv.refl _ _, h⟩
theorem MvQ.from {e : Exit} (hm : Mv base st st1) (h : MvQ base Q e st1) : MvQ base Q e st := by
  obtain ⟨s2, h1, h2⟩ := h
  exact ⟨s2, hm.trans h1, h2⟩
end
section
variable (P : Program) (N base : Nat)
/-- Where the walk stops at a loop. -/
structure SatL (x : LCode) (st : St) (Q : Exit → St → Prop) : Prop where
  h : Sat P N base x st Q
def wp : LCode → St → (Exit → St → Prop) → Prop
  | .skip, st, Q => Q .normal st
  | .exit id, st, Q => Q (.exit id) st
  | .ret, st, Q => Q .ret st
  | .region ops, ⟨env, σ, nx⟩, Q => wpOps P N base ops env σ nx none fun st => Q .normal st
  | .regionD ops M _, ⟨env, σ, nx⟩, Q => wpD P N base M ops env σ nx none [] fun st => Q .normal st
  | .seq a b, st, Q => wp a st fun e st => match e with
    | .normal => wp b st Q
    | e => Q e st
  | .cond c a b, ⟨env, σ, nx⟩, Q => match evo env c with
    | .c .tru => wp a ⟨env, σ, nx⟩ Q
    | .c .fls => wp b ⟨env, σ, nx⟩ Q
    | .c (.d (.v (.bool p))) => match c with
      | .tmp t => Fork p (wp a ⟨(t, .c .tru) :: env, σ, nx⟩ Q) (wp b ⟨(t, .c .fls) :: env, σ, nx⟩ Q)
      | _ => False
    | _ => False
  | .block id a, st, Q => wp a st fun e st => match e with
    | .exit k => match Nat.beq k id with
      | true => Q .normal st
      | false => Q (.exit k) st
    | e => Q e st
  | .loop a, st, Q => SatL P N base (.loop a) st (MvQ base Q)
  | .rangeFunc f ps a c, st, Q => SatL P N base (.rangeFunc f ps a c) st (MvQ base Q)
variable {P N base}
theorem wp_spec [m : Mix P] : ∀ (x : LCode) (st : St) (Q : Exit → St → Prop), wp P N base x st Q → Sat P N base x st Q
  | .skip, st, Q, h => Sat.skip h
  | .exit id, st, Q, h => Sat.exit h
  | .ret, st, Q, h => Sat.ret h
  | .region ops, ⟨env, σ, nx⟩, Q, h => Sat.region (Ops.wp h)
  | .regionD ops M ks, ⟨env, σ, nx⟩, Q, h => Sat.drawn m.h (OpsD.wp h)
  | .seq a b, st, Q, h => Sat.seq ((wp_spec a st _ h).mono fun e st h => by
    cases e with
    | normal => exact wp_spec b st Q h
    | _ => exact h)
  | .cond c a b, ⟨env, σ, nx⟩, Q, h => by
    unfold wp at h
    split at h
    · rename_i hv; exact Sat.condT hv (wp_spec a _ Q h)
    · rename_i hv; exact Sat.condF hv (wp_spec b _ Q h)
    · rename_i p hv
      split at h
      · exact Sat.cond hv (fun hh => wp_spec a _ Q (h.t hh)) (fun hh => wp_spec b _ Q (h.f hh))
      · exact h.elim
    · exact h.elim
  | .block id a, st, Q, h => Sat.block ((wp_spec a st _ h).mono fun e st h => by
    cases e with
    | exit k =>
      simp only [blockQ]
      simp only at h
      split at h
      · rename_i hb; rw [if_pos hb]; exact h
      · rename_i hb; rw [if_neg (by rw [hb]; simp)]; exact h
    | _ => exact h)
  | .loop a, st, Q, h => Sat.mv h.h
  | .rangeFunc f ps a c, st, Q, h => Sat.mv h.h
end
end Go.Pw

namespace Go.Pw
open Go Go.RowKit
section
variable {P : Program} {N base : Nat} {st : St} {Q : Exit → St → Prop}
theorem low_rangeFunc {own : List Nat} {code : Code} {f : Operand} {ps : List Nat} {la lb : LCode} (h : lowCode P N own code = some (.rangeFunc f ps la lb)) :
    ∃ qs a c, code = .rangeFunc f qs a c ∧ qs.toList = ps ∧ lowCode P N own a = some la ∧ lowCode P N own c = some lb := by
  cases code with
  | rangeFunc g qs a c =>
    simp only [lowCode, Option.bind_eq_bind, Option.bind_eq_some_iff, Option.some.injEq] at h
    obtain ⟨x, hx, y, hy, h⟩ := h
    cases h
    exact ⟨qs, a, c, rfl, rfl, hx, hy⟩
  | region id ops draw =>
    simp only [lowCode, Option.bind_eq_bind, Option.bind_eq_some_iff] at h
    obtain ⟨l, hl, h⟩ := h
    split at h
    · split at h <;> simp at h
    · simp at h
  | _ => simp [lowCode, Option.bind_eq_some_iff] at h
/-- A new block that is nobody's. -/
theorem alloc_mark {base : Nat} {Γ : Cx} {w : World} {σ : Store} (h : StoreOk Γ w σ) (o : Obj) : StoreOk Γ (w.alloc o) σ ∧ Ext base Γ w σ Γ (w.alloc o) σ :=
  ⟨h.keep (CxLe.refl _) (fun k hI => by have := h.im k hI; simp; omega) (alloc_same h o) (fun k hl => heap_alloc (h.live_lt hl)) (fun k hl hI => h.not_live hI hl),
    Ext.grow (Γ := Γ) (Γ' := Γ) (w := w) (w' := w.alloc o) (fun _ _ => rfl) (fun _ _ => rfl) (fun _ h => h) (fun k h => .inl h) rfl rfl rfl (by simp) (fun k hk _ => heap_alloc hk) _ (fun k hk => .inl hk)⟩
/-- How a range over a function ends. -/
def rangeQ (id : Nat) (env : List (Nat × V)) (Q : Exit → St → Prop) (σ' : Store) (nx' : Nat) : Prop :=
  match get σ' id with
  | some (.lp _ .ready none _) => Q .normal ⟨env, del σ' id, nx'⟩
  | some (.lp _ .done (some .ret) _) => Q .ret ⟨env, del σ' id, nx'⟩
  | some (.lp _ .done (some (.exit k)) _) => Q (.exit k) ⟨env, del σ' id, nx'⟩
  | _ => False
theorem rangeQ_iff {id : Nat} {env : List (Nat × V)} {σ' : Store} {nx' : Nat} (h : rangeQ id env Q σ' nx') :
    ∃ env' s j R, get σ' id = some (.lp env' s j R) ∧ s ≠ .busy ∧ ((j = none ∧ Q .normal ⟨env, del σ' id, nx'⟩) ∨ (j = some .ret ∧ Q .ret ⟨env, del σ' id, nx'⟩) ∨ ∃ k, j = some (.exit k) ∧ Q (.exit k) ⟨env, del σ' id, nx'⟩) := by
  unfold rangeQ at h
  split at h
  · rename_i e R hg; exact ⟨_, _, _, _, hg, by simp, .inl ⟨rfl, h⟩⟩
  · rename_i e R hg; exact ⟨_, _, _, _, hg, by simp, .inr (.inl ⟨rfl, h⟩)⟩
  · rename_i e k R hg; exact ⟨_, _, _, _, hg, by simp, .inr (.inr ⟨_, rfl, h⟩)⟩
  · exact h.elim
theorem Sat.rangeFunc {f : Operand} {ps : List Nat} {la lb : LCode} {fid : FuncId} {ids : List Nat} (hf : evo st.env f = .c (.fn fid ids)) (hps : ps.all (fun p => decide (p < N)) = true)
    (h : CallS P fid (.c (.yd st.nx) :: ids.map fun k => .c (.bp k 0)) ((st.nx, .lp st.env .ready none (RR P N ps la lb)) :: st.σ) (st.nx + 1) fun _ σ' nx' => rangeQ st.nx st.env Q σ' nx') :
    Sat P N base (.rangeFunc f ps la lb) st Q := by
  intro ro n B0 own code hro hl Γ0 Γ w0 w σ0 a hc hext
  obtain ⟨qs, ca, cb, rfl, hqs, hla, hlb⟩ := low_rangeFunc hl
  have hro' := hro rfl
  subst hro'
  have hfr := hc.ev f
  rw [hf] at hfr
  obtain ⟨bs, hbl, hbs, hfu⟩ : ∃ bs : List Nat, bs.length = ids.length ∧ (∀ (j i : Nat), ids[j]? = some i → ∃ b, Γ.ρ i = some b ∧ bs[j]? = some b) ∧ a.eval f = .func (.func fid) #[] (bs.map fun b => ptr b 0).toArray := by
    generalize a.eval f = u at hfr ⊢
    cases hfr with | c _ _ h => exact h
  refine wpIn_rangeFunc (fun fn _ => ?_)
  let wa := w.alloc (.deferred (some []))
  have hsza : wa.heap.size = w.heap.size + 1 := by simp [wa]
  let r0 : Loop := { state := .ready, pending := none, fn, tmps := a.tmps, params := qs, assign := ca, body := cb, defers := w.heap.size }
  let w1 := wa.alloc (.loop r0)
  obtain ⟨hsta, hexta⟩ := alloc_mark (base := st.nx) hc.ok (.deferred (some []))
  have hid := hc.free st.nx (Nat.le_refl _)
  have hRR : RR P N ps la lb { r0 with state := .ready, pending := none } :=
    ⟨hc.size, hqs, fun p hp => by simpa using List.all_eq_true.1 hps p hp, own, hla, hlb⟩
  have hent : EntOk (Γ.upd st.nx wa.heap.size none) (wa.alloc (.loop r0)) st.nx wa.heap.size (.lp st.env .ready none (RR P N ps la lb)) := by
    refine ⟨fun hI => ?_, r0, heap_alloc_new' _ _, rfl, rfl, hRR, fun t => ?_⟩
    · have := hc.ok.im _ hI; omega
    · exact (hc.env t).mono (CxLe.upd _ _ _ hid) (fun k hk => by
        have := hc.ok.im k hk
        rw [heap_alloc (by omega), show wa.heap[k]? = w.heap[k]? from heap_alloc this])
  obtain ⟨hst1, hext1⟩ := alloc_ent (base := st.nx) hsta hid (Nat.le_refl _) (.loop r0) none _ hent
  have hrep : RepL (Γ.upd st.nx wa.heap.size none) w1 (.c (.yd st.nx) :: ids.map fun k => .c (.bp k 0)) (#[Value.func (.yield (w.heap.size + 1)) #[] #[]] ++ (bs.map fun b => ptr b 0).toArray) := by
    refine ⟨by simp [hbl], fun j v u hv hu => ?_⟩
    cases j with
    | zero =>
      simp at hv hu
      subst hv; subst hu
      exact .c _ _ ⟨wa.heap.size, upd_ρ_same, by rw [hsza]⟩
    | succ j =>
      simp only [List.getElem?_cons_succ, List.getElem?_map, Option.map_eq_some_iff] at hv
      obtain ⟨k, hk, rfl⟩ := hv
      obtain ⟨b, hb, hb'⟩ := hbs j k hk
      rw [Array.getElem?_append_right (by simp)] at hu
      simp [hb'] at hu
      subst hu
      refine .c _ _ ⟨b, ?_, rfl⟩
      rw [upd_ρ (fun e => by rw [e] at hb; rw [hid] at hb; cases hb)]; exact hb
  have hfree1 : ∀ id, st.nx + 1 ≤ id → (Γ.upd st.nx wa.heap.size none).ρ id = none := fun id h => by
    rw [upd_ρ (by omega)]; exact hc.free id (by omega)
  have hres : (resolve a.eval (rangeCall f (w.heap.size + 1)) 0).run P w1 = .ok { target := .fn (.func fid) (bs.map fun b => ptr b 0).toArray, args := #[.func (.yield (w.heap.size + 1)) #[] #[]] } w1 := by
    unfold resolve
    simp only [hfu, Deferred.ofValue]
    simp [Act.eval]
  have he : (Instr.enterLoop fn a.tmps qs ca cb (FW none).round).run P w = .ok (w.heap.size + 1, [mkD w.heap.size]) w1 := run_enterLoop_outer fn a.tmps qs ca cb
  have hinv : (invoke (Target.fn (.func fid) (bs.map fun b => ptr b 0).toArray) #[.func (.yield (w.heap.size + 1)) #[] #[]]).run P w1 = .ok (.enter fid (#[.func (.yield (w.heap.size + 1)) #[] #[]] ++ (bs.map fun b => ptr b 0).toArray)) w1 := h.1 _ _
  have hcall := h.2 _ w1 _ hst1 hfree1 hrep
  have hpost : ∀ e w', (∃ u v Γ' σ' nx', e = .returned u ∧ rangeQ st.nx st.env Q σ' nx' ∧ RepV Γ' w' v u ∧ StoreOk Γ' w' σ' ∧ Ext (st.nx + 1) (Γ.upd st.nx wa.heap.size none) w1 ((st.nx, .lp st.env .ready none (RR P N ps la lb)) :: st.σ) Γ' w' σ' ∧ (∀ id, nx' ≤ id → Γ'.ρ id = none) ∧ st.nx + 1 ≤ nx') →
      rangePost (FW none) n P (w.heap.size + 1) (Post N B0 base Γ0 w0 σ0 Q) { a with defers := [mkD w.heap.size] ++ a.defers } e w' := by
    rintro e w' ⟨u, v, Γ', σ', nx', rfl, hR, hv, hst', hext', hfree', hle'⟩
    obtain ⟨env', s, j, R, hlp, hsb, hj⟩ := rangeQ_iff hR
    obtain ⟨b, r, hb, hh, hs, hjr, _, _⟩ := lp_rec hst' hlp
    have hb1 : b = w.heap.size + 1 := by
      rw [hext'.ρ st.nx (Nat.lt_succ_self _), upd_ρ_same] at hb
      cases hb; rw [hsza]
    subst hb1
    have hend := run_endLoop (P := P) hh (by rw [hs]; exact hsb)
    let w4 := w'.putObj (w.heap.size + 1) (.loop { r with state := .exhausted })
    obtain ⟨hst4, hext4⟩ := set_lp (s' := .exhausted) (j' := r.pending) hst' hlp hb hh
    have hsub : Sub (del σ' st.nx) (set σ' st.nx (.lp env' .exhausted r.pending R)) := fun id x hx => by
      by_cases he : id = st.nx
      · subst he; rw [get_del_same] at hx; cases hx
      · rw [get_del_other he] at hx; rw [get_set_other he]; exact hx
    have hst5 : StoreOk Γ' w4 (del σ' st.nx) := hst4.sub hsub
    have hE : Ext st.nx Γ wa st.σ Γ' w4 (del σ' st.nx) := by
      have h1 := (hext1.trans (hext'.mono (Nat.le_succ _))).trans (hext4 st.nx)
      exact ⟨h1.os, h1.tape, h1.output, h1.size, h1.im, h1.new, h1.ρ, h1.κ, h1.keep, fun k hk => h1.live k (live_sub hsub hk)⟩
    have hEw : Ext st.nx Γ w st.σ Γ' w4 (del σ' st.nx) := hexta.trans hE
    have hle : CxLe Γ Γ' := ext_cxle hEw hc.free
    have hsame := hEw.same hc.ok
    have hconc : Conc N B0 base Γ' w4 ⟨st.env, del σ' st.nx, nx'⟩ { a with defers := [mkD w.heap.size] ++ a.defers } := by
      refine ⟨hc.size, fun t => (hc.env t).mono hle hsame, hst5, hfree', by have := hc.le; show base ≤ nx'; omega, ?_⟩
      obtain ⟨Ds, d1, d2, d3⟩ := hc.dfs
      have hnl : ¬ Live Γ st.σ w.heap.size := fun hl => Nat.lt_irrefl _ (hc.ok.live_lt hl)
      refine ⟨w.heap.size :: Ds, by simp [d1], ⟨List.nodup_cons.2 ⟨fun hm => ?_, d2.1⟩, Nat.le_trans d2.2 hEw.size⟩, fun D hD => ?_⟩
      · have := (Array.getElem?_eq_some_iff.1 (d3 _ hm).2.2.2).1; omega
      · rcases List.mem_cons.1 hD with rfl | hD
        · refine ⟨d2.2, fun hi => ?_, fun hlv => ?_, ?_⟩
          · rcases hE.new _ hi with h1 | h1 | h1
            · exact Nat.lt_irrefl _ (hc.ok.im _ h1)
            · omega
            · exact hnl h1
          · rcases hE.live _ hlv with h1 | h1
            · exact hnl h1
            · omega
          · rw [hE.keep _ (by omega) hnl]; exact heap_alloc_new' _ _
        · obtain ⟨d4, d5, d6, d7⟩ := d3 D hD
          have hlt : D < w.heap.size := (Array.getElem?_eq_some_iff.1 d7).1
          refine ⟨d4, fun hi => ?_, fun hlv => ?_, (hEw.keep D hlt d6).trans d7⟩
          · rcases hEw.new D hi with h1 | h1 | h1
            · exact d5 h1
            · omega
            · exact d6 h1
          · rcases hEw.live D hlv with h1 | h1
            · exact d6 h1
            · omega
    have hEx : Ext base Γ0 w0 σ0 Γ' w4 (del σ' st.nx) := hext.trans (hEw.mono hc.le)
    refine ⟨r.pending, w4, hend, ?_⟩
    rcases hj with ⟨rfl, hq⟩ | ⟨rfl, hq⟩ | ⟨k, rfl, hq⟩
    · rw [hjr]; exact ⟨Γ', _, hconc, hEx, hq⟩
    · rw [hjr]; exact wpIn_ret ⟨Γ', _, hconc, hEx, hq⟩
    · rw [hjr]; exact wpIn_exit ⟨Γ', _, hconc, hEx, hq⟩
  exact ⟨w.heap.size + 1, [mkD w.heap.size], w1, _, w1, fid, _, w1, he, hres, fun _ _ => trivial, hinv, fun h => by simp [FW, Fence.wide] at h, Calls.fw (hcall.mono hpost)⟩
end
end Go.Pw

set_option linter.unusedVariables false
set_option linter.unusedSectionVars false
namespace Go.Pw
open Go Go.RowKit
/-- A function's lowered code. -/
structure FnOk (P : Program) (f : FuncId) (N : Nat) (lc : LCode) (rl : List RL) : Prop where
  ent : Ent1 P f
  ok : ∃ own fn, P.funcs[f]? = some fn ∧ lowF P own fn = some (N, lc, rl)
section
variable {P : Program} [m : Mix P] {N base : Nat}
theorem Sat.of {x : LCode} {st : St} {Q : Exit → St → Prop} (h : wp P N base x st Q) : Sat P N base x st Q := wp_spec x st Q h
theorem PFD.of {f : FuncId} {lc : LCode} {rl : List RL} {args vs : List V} (hf : FnOk P f N lc rl) (hN : Nat.ble args.length N = true) (hc : cloL args)
    (h : wp P N 0 lc ⟨argEnv 0 args, [], 0⟩ (RetQ 0 rl vs [] 0)) : PFD P f args (retV vs) := by
  obtain ⟨hent, own, fn, h1, h2⟩ := hf
  exact PFD.enter vs h1 hent h2 (Nat.le_of_ble_eq_true hN) hc (Sat.of h)
def normC : C → C
  | .tru => .d (.v (.bool true))
  | .fls => .d (.v (.bool false))
  | c => c
def normA : V → V
  | .c x => .c (normC x)
  | .agg cs => .agg (cs.map normC)
  | v => v
theorem normC_eq (c : C) : CEq c (normC c) := by cases c <;> first | exact .tru | exact .fls | exact .refl _
theorem normA_eq (v : V) : VEq v (normA v) := by
  cases v with
  | c x => exact .c _ _ (normC_eq x)
  | agg cs =>
    refine .agg _ _ (by simp) (fun i x y hx hy => ?_)
    simp only [List.getElem?_map, hx, Option.map_some, Option.some.injEq] at hy
    subst hy
    exact normC_eq x
  | _ => exact .refl _
theorem ris_norm : ∀ (xs : List V), RIs xs (xs.map normA)
  | [] => .nil
  | x :: xs => .cons (normA_eq x).ri (ris_norm xs)
theorem VEqs.ris : ∀ {xs ys : List V}, VEqs xs ys → RIs xs ys
  | [], [], _ => .nil
  | x :: xs, y :: ys, h => .cons h.1.ri (VEqs.ris h.2)
  | [], _ :: _, h => h.elim
  | _ :: _, [], h => h.elim
/-- Forms of the arguments: as they are (bools known or not). -/
structure Fits (env : List (Nat × V)) (xs : List Operand) (args : List V) : Prop where
  h : RIs (xs.map (evo env)) args
theorem Fits.eq {env : List (Nat × V)} {xs : List Operand} {args : List V} (h : (xs.map (evo env)).map normA = args) : Fits env xs args := ⟨h ▸ ris_norm _⟩
theorem Fits.veq {env : List (Nat × V)} {xs : List Operand} {args : List V} (h : VEqs (xs.map (evo env)) args) : Fits env xs args := ⟨h.ris⟩
theorem Ops.pc {dst : Option Nat} {fop : Operand} {xs : List Operand} {g : Option (Nat × Bool)} {rest : List LIns} {env : List (Nat × V)} {σ : Store} {nx : Nat} {K : St → Prop} {f : FuncId} {args : List V} {v : V} (hf : evo env fop = .c (.fn f [])) (ha : Fits env xs args) (hc : PFD P f args v)
    (hg : guardOf env g = .run) (h : putK dst v env fun env' => wpOps P N base rest env' σ nx none K) : OpsL P N base (⟨dst, .call fop xs, g⟩ :: rest) ⟨env, σ, nx⟩ K := by
  rw [putK_eq] at h
  exact ⟨Ops.pcall (i := ⟨dst, .call fop xs, g⟩) (st := ⟨env, σ, nx⟩) hg rfl hf ha.h hc (Ops.wp h)⟩
theorem OpsD.pc {M : List Nat} {acc : List (Bool × List Nat)} {dst : Option Nat} {fop : Operand} {xs : List Operand} {g : Option (Nat × Bool)} {rest : List LIns} {env : List (Nat × V)} {σ : Store} {nx : Nat} {K : St → Prop} {f : FuncId} {args : List V} {v : V} (hf : evo env fop = .c (.fn f [])) (ha : Fits env xs args) (hc : PFD P f args v)
    (hg : guardOf env g = .run) (h : putK dst v env fun env' => wpD P N base M rest env' σ nx none ((false, []) :: acc) K) : OpsDL P N base M (⟨dst, .call fop xs, g⟩ :: rest) ⟨env, σ, nx⟩ acc K := by
  rw [putK_eq] at h
  exact ⟨OpsD.pcall (k := 0) (ks := []) (i := ⟨dst, .call fop xs, g⟩) (st := ⟨env, σ, nx⟩) hg rfl hf ha.h hc (OpsD.wp h)⟩
/-- From this step on the order is given. -/
theorem OpsD.seq' {M : List Nat} {i : LIns} {ops : List LIns} {st : St} {acc : List (Bool × List Nat)} {K : St → Prop} (hf : fpAll M 0 acc.reverse = true) (hM : fullFrom M acc.length = true) (h : OpsL P N base (i :: ops) st K) : OpsDL P N base M (i :: ops) st acc K := ⟨OpsD.seq hf hM h.h⟩
theorem OpsL.same {ops : List LIns} {st : St} {K : St → Prop} (h : OpsL P N base ops st K) : OpsL P N base ops st K := h
theorem OpsDL.same {M : List Nat} {ops : List LIns} {st : St} {acc : List (Bool × List Nat)} {K : St → Prop} (h : OpsDL P N base M ops st acc K) : OpsDL P N base M ops st acc K := h
theorem Fork.same {b : Bool} {p q : Prop} (h : Fork b p q) : Fork b p q := h
/-- A value, forced. -/
def frV (v : V) (k : V → Prop) : Prop :=
  match v with
  | .c x => k (.c x)
  | .agg cs => k (.agg cs)
  | .tup vs => k (.tup vs)
  | .unk => k .unk
theorem frV_eq (v : V) (k : V → Prop) : frV v k = k v := by cases v <;> rfl
def argK : Nat → List V → (List (Nat × V) → Prop) → Prop
  | _, [], k => k []
  | n, v :: vs, k => frV v fun v => frNat (n + 1) fun n' => argK n' vs fun e => k ((n, v) :: e)
theorem argK_eq : ∀ (vs : List V) (n : Nat) (k : List (Nat × V) → Prop), argK n vs k = k (argEnv n vs)
  | [], n, k => rfl
  | v :: vs, n, k => by simp only [argK, frV_eq, frNat_eq, argK_eq vs, argEnv]
def callQ (rl : List RL) (R : V → Store → Nat → Prop) : Exit → St → Prop
  | .normal, st => match resAll st.env st.σ rl with
    | some vs => R (retV vs) st.σ st.nx
    | none => False
  | .ret, st => match resAll st.env st.σ rl with
    | some vs => R (retV vs) st.σ st.nx
    | none => False
  | _, _ => False
theorem CallS.of {f : FuncId} {lc : LCode} {rl : List RL} {args : List V} {σ : Store} {nx : Nat} {R : V → Store → Nat → Prop} (hf : FnOk P f N lc rl) (hN : Nat.ble args.length N = true)
    (h : argK 0 args fun env => wp P N nx lc ⟨env, σ, nx⟩ (callQ rl R)) : CallS P f args σ nx R := by
  rw [argK_eq] at h
  obtain ⟨hent, own, fn, h1, h2⟩ := hf
  refine CallS.enter h1 hent h2 (Nat.le_of_ble_eq_true hN) ((Sat.of h).mono fun e st h => ?_)
  unfold callQ at h
  split at h
  · split at h
    · rename_i vs hv; exact ⟨.inl rfl, vs, hv, h⟩
    · exact h.elim
  · split at h
    · rename_i vs hv; exact ⟨.inr rfl, vs, hv, h⟩
    · exact h.elim
  · exact h.elim
theorem Ops.cs {dst : Option Nat} {fop : Operand} {xs : List Operand} {g : Option (Nat × Bool)} {rest : List LIns} {env : List (Nat × V)} {σ : Store} {nx : Nat} {K : St → Prop} {f : FuncId} {ids : List Nat} (hf : evo env fop = .c (.fn f ids)) (hg : guardOf env g = .run)
    (h : CallS P f (xs.map (evo env) ++ ids.map fun k => .c (.bp k 0)) σ nx fun v σ' nx' => frV v fun v => frNat nx' fun nx' => putK dst v env fun env' => wpOps P N base rest env' σ' nx' none K) : OpsL P N base (⟨dst, .call fop xs, g⟩ :: rest) ⟨env, σ, nx⟩ K := by
  refine ⟨?_⟩
  refine Ops.callS (i := ⟨dst, .call fop xs, g⟩) (st := ⟨env, σ, nx⟩) hg rfl hf ?_
  simp only [frV_eq, frNat_eq, putK_eq] at h
  exact ⟨h.1, fun Γ w us h1 h2 h3 => (h.2 Γ w us h1 h2 h3).mono fun e w' ⟨u, v, Γ', σ', nx', q1, q2, q3⟩ => ⟨u, v, Γ', σ', nx', q1, Ops.wp q2, q3⟩⟩
structure Again0 {ι : Type} (inv : ι → List (Nat × V)) (pre : ι → Prop) (μ : ι → Nat) (i : ι) (st : St) : Prop where
  h : ∃ j, pre j ∧ μ j < μ i ∧ envIs st.env (inv j)
def lpQ0 {ι : Type} (inv : ι → List (Nat × V)) (pre : ι → Prop) (μ : ι → Nat) (i : ι) (Q : Exit → St → Prop) : Exit → St → Prop
  | .normal, st => Again0 inv pre μ i st
  | e, st => Q e st
structure Again {ι : Type} (base : Nat) (inv : ι → St) (pre : ι → Prop) (μ : ι → Nat) (i : ι) (st : St) : Prop where
  h : ∃ j π, pre j ∧ μ j < μ i ∧ Wk base st (inv j) π
def lpQ {ι : Type} (base : Nat) (inv : ι → St) (pre : ι → Prop) (μ : ι → Nat) (i : ι) (Q : Exit → St → Prop) : Exit → St → Prop
  | .normal, st => Again base inv pre μ i st
  | e, st => Q e st
theorem Sat.lp0 {x : LCode} {st : St} {Q : Exit → St → Prop} {ι : Type} (inv : ι → List (Nat × V)) (pre : ι → Prop) (μ : ι → Nat) (i0 : ι) (h0 : pre i0) (hw : envIs st.env (inv i0))
    (round : ∀ i, pre i → wp P N base x ⟨inv i, [], base⟩ (lpQ0 inv pre μ i Q)) : SatL P N base (.loop x) st Q :=
  ⟨Sat.loop0 inv pre μ i0 h0 hw fun i hi => (Sat.of (round i hi)).mono fun e st h => by
    cases e with
    | normal => exact h.h
    | _ => exact h⟩
/-- Actual names for the head's names from base on. -/
def nmAt (base : Nat) (l : List Nat) (i : Nat) : Nat :=
  match Nat.ble base i with
  | true => l.getD (i - base) i
  | false => i
def distinct : List Nat → Bool
  | [] => true
  | x :: l => !(memN x l) && distinct l
def geAll (base : Nat) : List Nat → Bool
  | [] => true
  | x :: l => Nat.ble base x && geAll base l
def nmOk (base nx0 : Nat) (l : List Nat) : Bool := Nat.ble base nx0 && Nat.ble nx0 (base + l.length) && distinct l && geAll base l
theorem distinct_inj : ∀ {l : List Nat}, distinct l = true → ∀ (i j x : Nat), l[i]? = some x → l[j]? = some x → i = j
  | [], _, i, j, x, h, _ => by simp at h
  | y :: l, hd, i, j, x, hi, hj => by
    simp only [distinct, Bool.and_eq_true, Bool.not_eq_true'] at hd
    have hn : y ∉ l := fun h => by rw [memN_iff.2 h] at hd; cases hd.1
    cases i with
    | zero =>
      cases j with
      | zero => rfl
      | succ j =>
        simp only [List.getElem?_cons_zero, Option.some.injEq] at hi
        subst hi
        exact absurd (List.mem_of_getElem? (by simpa using hj)) hn
    | succ i =>
      cases j with
      | zero =>
        simp only [List.getElem?_cons_zero, Option.some.injEq] at hj
        subst hj
        exact absurd (List.mem_of_getElem? (by simpa using hi)) hn
      | succ j => rw [distinct_inj hd.2 i j x (by simpa using hi) (by simpa using hj)]
theorem geAll_get : ∀ {base : Nat} {l : List Nat}, geAll base l = true → ∀ x ∈ l, base ≤ x
  | _, [], _, x, h => by cases h
  | base, y :: l, hd, x, h => by
    simp only [geAll, Bool.and_eq_true] at hd
    rcases List.mem_cons.1 h with rfl | h
    · exact Nat.le_of_ble_eq_true hd.1
    · exact geAll_get hd.2 x h
theorem nmAt_lo {l : List Nat} {i : Nat} (h : i < base) : nmAt base l i = i := by
  unfold nmAt
  split
  · rename_i hb; have := Nat.le_of_ble_eq_true hb; omega
  · rfl
theorem nmAt_hi {l : List Nat} {i : Nat} (h : base ≤ i) : nmAt base l i = l.getD (i - base) i := by
  unfold nmAt
  split
  · rfl
  · rename_i hb; rw [Nat.ble_eq_true_of_le h] at hb; cases hb
def cLtB (n : Nat) : C → Bool
  | .fn _ ids => ltAll n ids
  | .bp id _ => Nat.blt id n
  | .ep id _ _ _ => Nat.blt id n
  | .ms id _ => Nat.blt id n
  | .yd id => Nat.blt id n
  | _ => true
  where ltAll (n : Nat) : List Nat → Bool
  | [] => true
  | i :: is => Nat.blt i n && ltAll n is
def csLtB (n : Nat) : List C → Bool
  | [] => true
  | c :: cs => cLtB n c && csLtB n cs
def vLtB (n : Nat) : V → Bool
  | .c x => cLtB n x
  | .agg cs => csLtB n cs
  | .tup _ => false
  | .unk => true
def envLtB (n : Nat) : List (Nat × V) → Bool
  | [] => true
  | (_, v) :: e => vLtB n v && envLtB n e
def eLtB (n : Nat) : Ent → Bool
  | .box cs => csLtB n cs
  | .row .. => true
  | .lp env _ _ _ => envLtB n env
def stoLtB (n : Nat) : Store → Bool
  | [] => true
  | (i, e) :: σ => Nat.blt i n && eLtB n e && stoLtB n σ
theorem blt_iff {a b : Nat} : Nat.blt a b = true ↔ a < b := by simp [Nat.blt_eq]
theorem ltAll_sound {n : Nat} : ∀ {l : List Nat}, cLtB.ltAll n l = true → ∀ i ∈ l, i < n
  | [], _, i, h => by cases h
  | x :: l, h, i, hi => by
    simp only [cLtB.ltAll, Bool.and_eq_true] at h
    rcases List.mem_cons.1 hi with rfl | hi
    · exact blt_iff.1 h.1
    · exact ltAll_sound h.2 i hi
theorem cLtB_sound {n : Nat} {c : C} (h : cLtB n c = true) : cLt n c := by
  cases c with
  | fn f ids => exact fun i hi => ltAll_sound h i hi
  | bp | ep | ms | yd => exact blt_iff.1 h
  | _ => trivial
theorem csLtB_sound {n : Nat} : ∀ {cs : List C}, csLtB n cs = true → csLt n cs
  | [], _ => trivial
  | c :: cs, h => by simp only [csLtB, Bool.and_eq_true] at h; exact ⟨cLtB_sound h.1, csLtB_sound h.2⟩
theorem vLtB_sound {n : Nat} {v : V} (h : vLtB n v = true) : vLt n v := by
  cases v with
  | c x => exact cLtB_sound h
  | agg cs => exact csLtB_sound h
  | tup => cases h
  | unk => trivial
theorem envLtB_sound {n : Nat} : ∀ {e : List (Nat × V)}, envLtB n e = true → envLt n e
  | [], _ => trivial
  | (_, v) :: e, h => by simp only [envLtB, Bool.and_eq_true] at h; exact ⟨vLtB_sound h.1, envLtB_sound h.2⟩
theorem eLtB_sound {n : Nat} {e : Ent} (h : eLtB n e = true) : eLt n e := by
  cases e with
  | box cs => exact csLtB_sound h
  | row => trivial
  | lp => exact envLtB_sound h
/-- The slots and the entries of a head: what is, is what the head says (renamed). -/
def envEq (π : Nat → Nat) (env : List (Nat × V)) : List (Nat × V) → Prop
  | [] => True
  | (t, v) :: e0 => VEq (lk env t) (rnV π v) ∧ envEq π env e0
def stoEq (π : Nat → Nat) (σ : Store) : Store → Prop
  | [] => True
  | (id, x) :: σ0 => (match get σ (π id) with | some y => EEq y (rnE π x) | none => False) ∧ stoEq π σ σ0
theorem envEq.ok {n : Nat} {π : Nat → Nat} {env : List (Nat × V)} : ∀ {e0 : List (Nat × V)}, envLtB n e0 = true → envEq π env e0 → envOk n π env e0
  | [], _, _ => trivial
  | (t, v) :: e0, hl, h => by
    simp only [envLtB, Bool.and_eq_true] at hl
    exact ⟨⟨h.1, vLtB_sound hl.1⟩, envEq.ok hl.2 h.2⟩
theorem stoEq.ok {n : Nat} {π : Nat → Nat} {σ : Store} : ∀ {σ0 : Store}, stoLtB n σ0 = true → stoEq π σ σ0 → stoOk n π σ σ0
  | [], _, _ => stoOk.nil
  | (id, x) :: σ0, hl, h => by
    simp only [stoLtB, Bool.and_eq_true] at hl
    refine stoOk.cons (blt_iff.1 hl.1.1) (eLtB_sound hl.1.2) ?_ (stoEq.ok hl.2 h.2)
    have := h.1
    split at this
    · rename_i y hy; exact ⟨y, hy, this⟩
    · exact this.elim
/-- A state is a head's, under these names. -/
structure Is (base : Nat) (st st0 : St) (l : List Nat) : Prop where
  nm : (nmOk base st0.nx l && envLtB st0.nx st0.env && stoLtB st0.nx st0.σ) = true
  env : envEq (nmAt base l) st.env st0.env
  sto : stoEq (nmAt base l) st.σ st0.σ
theorem Is.wk {st st0 : St} {l : List Nat} (h : Is base st st0 l) : Wk base st st0 (nmAt base l) := by
  have h1 := h.nm
  simp only [nmOk, Bool.and_eq_true] at h1
  obtain ⟨⟨⟨⟨⟨a1, a2⟩, a3⟩, a4⟩, a5⟩, a6⟩ := h1
  have a1 := Nat.le_of_ble_eq_true a1
  have a2 := Nat.le_of_ble_eq_true a2
  have hget : ∀ i, base ≤ i → i < st0.nx → ∃ x, l[i - base]? = some x ∧ nmAt base l i = x ∧ base ≤ x := fun i h1 h2 => by
    have hlt : i - base < l.length := by omega
    refine ⟨l[i - base], by simp [hlt], ?_, geAll_get a4 _ (List.getElem_mem hlt)⟩
    rw [nmAt_hi h1, List.getD_eq_getElem?_getD, List.getElem?_eq_getElem hlt]; rfl
  refine ⟨fun i hi => nmAt_lo hi, fun i j hi hj he => ?_, a1, h.env.ok a5, h.sto.ok a6⟩
  rcases Nat.lt_or_ge i base with h1 | h1 <;> rcases Nat.lt_or_ge j base with h2 | h2
  · rw [nmAt_lo h1, nmAt_lo h2] at he; exact he
  · obtain ⟨x, _, hx, hx'⟩ := hget j h2 hj
    rw [nmAt_lo h1, hx] at he; omega
  · obtain ⟨x, _, hx, hx'⟩ := hget i h1 hi
    rw [nmAt_lo h2, hx] at he; omega
  · obtain ⟨x, hx, hx', _⟩ := hget i h1 hi
    obtain ⟨y, hy, hy', _⟩ := hget j h2 hj
    rw [hx', hy'] at he
    subst he
    have := distinct_inj a3 _ _ _ hx hy
    omega
/-- A loop whose head holds names. -/
theorem Sat.lp {x : LCode} {st : St} {Q : Exit → St → Prop} {ι : Type} (inv : ι → St) (pre : ι → Prop) (μ : ι → Nat) (i0 : ι) (l : List Nat) (h0 : pre i0) (hw : Is base st (inv i0) l)
    (round : ∀ i, pre i → wp P N base x (inv i) (lpQ base inv pre μ i Q)) : SatL P N base (.loop x) st Q :=
  ⟨Sat.loop inv pre μ i0 _ h0 hw.wk fun i hi => (Sat.of (round i hi)).mono fun e st h => by
    cases e with
    | normal => exact h.h
    | _ => exact h⟩
theorem again {ι : Type} {inv : ι → St} {pre : ι → Prop} {μ : ι → Nat} {i : ι} {st : St} (j : ι) (l : List Nat) (h : pre j) (hm : μ j < μ i) (hw : Is base st (inv j) l) : Again base inv pre μ i st :=
  ⟨j, _, h, hm, hw.wk⟩
theorem again0 {ι : Type} {inv : ι → List (Nat × V)} {pre : ι → Prop} {μ : ι → Nat} {i : ι} {st : St} (j : ι) (h : pre j) (hm : μ j < μ i) (hw : envIs st.env (inv j)) : Again0 inv pre μ i st :=
  ⟨j, h, hm, hw⟩
theorem Sat.rf {f : Operand} {ps : List Nat} {la lb : LCode} {fid : FuncId} {ids : List Nat} {env : List (Nat × V)} {σ : Store} {nx : Nat} {Q : Exit → St → Prop} (hf : evo env f = .c (.fn fid ids)) (hps : ps.all (fun p => decide (p < N)) = true)
    (h : frNat (nx + 1) fun nx1 => CallS P fid (.c (.yd nx) :: ids.map fun k => .c (.bp k 0)) ((nx, .lp env .ready none (RR P N ps la lb)) :: σ) nx1 fun _ σ' nx' => frNat nx' fun nx' => rangeQ nx env Q σ' nx') : SatL P N base (.rangeFunc f ps la lb) ⟨env, σ, nx⟩ Q := by
  simp only [frNat_eq] at h
  exact ⟨Sat.rangeFunc (st := ⟨env, σ, nx⟩) hf hps h⟩
/-- What a round comes to. -/
def yieldQ (id : Nat) (R : Loop → Prop) (next : V → Store → Nat → Prop) : Exit → St → Prop
  | .normal, st => ∃ env2 s2 j2, get st.σ id = some (.lp env2 s2 j2 R) ∧ frS (set st.σ id (.lp env2 .ready none R)) fun σ => next (.c .tru) σ st.nx
  | .ret, st => ∃ env2 s2 j2, get st.σ id = some (.lp env2 s2 j2 R) ∧ frS (set st.σ id (.lp env2 .done (some .ret) R)) fun σ => next (.c .fls) σ st.nx
  | .exit k, st => ∃ env2 s2 j2, get st.σ id = some (.lp env2 s2 j2 R) ∧ frS (set st.σ id (.lp env2 .done (some (.exit k)) R)) fun σ => next (.c .fls) σ st.nx
  | _, _ => False
def bindK : List Nat → List V → List (Nat × V) → (List (Nat × V) → Prop) → Prop
  | p :: ps, v :: vs, env, k => frV v fun v => bindK ps vs ((p, v) :: env) k
  | _, _, env, k => k env
theorem bindK_eq : ∀ (ps : List Nat) (vs : List V) (env : List (Nat × V)) (k : List (Nat × V) → Prop), bindK ps vs env k = k (bindE ps vs env)
  | [], vs, env, k => by simp [bindK, bindE]
  | p :: ps, [], env, k => by simp [bindK, bindE]
  | p :: ps, v :: vs, env, k => by simp only [bindK, frV_eq, bindK_eq ps vs, bindE]
theorem Ops.yd {id N' : Nat} {dst : Option Nat} {fop : Operand} {xs : List Operand} {g : Option (Nat × Bool)} {rest : List LIns} {env : List (Nat × V)} {σ : Store} {nx : Nat} {K : St → Prop} {env0 : List (Nat × V)} {ps : List Nat} {la lb : LCode} (hf : evo env fop = .c (.yd id)) (hg : guardOf env g = .run)
    (hlp : get σ id = some (.lp env0 .ready none (RR P N' ps la lb))) (hlen : Nat.beq ps.length xs.length = true) (hr : (la.ranges || lb.ranges) = false)
    (h : bindK ps (xs.map (evo env)) env0 fun e => Pw.wp P N' nx la ⟨e, σ, nx⟩ fun e st1 => e = .normal ∧ ∃ env1, get st1.σ id = some (.lp env1 .ready none (RR P N' ps la lb)) ∧
      frS (set st1.σ id (.lp env1 .busy none (RR P N' ps la lb))) fun σ' => frNat st1.nx fun nx1 => Pw.wp P N' nx lb ⟨st1.env, σ', nx1⟩ (yieldQ id (RR P N' ps la lb) fun v σ' nx' => frNat nx' fun nx' => putK dst v env fun env' => wpOps P N base rest env' σ' nx' none K)) :
    OpsL P N base (⟨dst, .call fop xs, g⟩ :: rest) ⟨env, σ, nx⟩ K := by
  rw [bindK_eq] at h
  refine ⟨?_⟩
  simp only [Bool.or_eq_false_iff] at hr
  refine Ops.yield (i := ⟨dst, .call fop xs, g⟩) (st := ⟨env, σ, nx⟩) hg rfl hf hlp (Nat.eq_of_beq_eq_true hlen) hr.1 hr.2 ((Sat.of h).mono fun e st1 ⟨he, env1, h1, h2⟩ => ⟨he, env1, h1, ?_⟩)
  rw [frS_eq, frNat_eq] at h2
  refine (Sat.of h2).mono fun e st2 h3 => ?_
  cases e with
  | normal =>
    obtain ⟨env2, s2, j2, hg2, h4⟩ := h3
    simp only [frNat_eq, putK_eq, frS_eq] at h4
    exact ⟨env2, s2, j2, hg2, Ops.wp h4⟩
  | ret =>
    obtain ⟨env2, s2, j2, hg2, h4⟩ := h3
    simp only [frNat_eq, putK_eq, frS_eq] at h4
    exact ⟨env2, s2, j2, hg2, Ops.wp h4⟩
  | exit k =>
    obtain ⟨env2, s2, j2, hg2, h4⟩ := h3
    simp only [frNat_eq, putK_eq, frS_eq] at h4
    exact ⟨env2, s2, j2, hg2, Ops.wp h4⟩
  | _ => exact h3.elim
end
end Go.Pw

set_option linter.unusedVariables false
namespace Go.Pw
open Go Go.RowKit
abbrev dI (n : Int) : D := .v (.int .i64 n)
abbrev int (n : Int) : C := .d (.v (.int .i64 n))
abbrev r1 (n : Int) : List D := [dI n]
abbrev r2 (p : Int × Int) : List D := [dI p.1, dI p.2]
abbrev r3 (p : Int × Int × Int) : List D := [dI p.1, dI p.2.1, dI p.2.2]
abbrev slv {α : Type} (s : Nat) (row : α → List D) (d : α) (l : List α) : C := .d (.sl s l.length fun i => row (l.getD i d))
abbrev ints (l : List Int) : C := slv 1 r1 0 l
abbrev prs (l : List (Int × Int)) : C := slv 2 r2 (0, 0) l
abbrev trs (l : List (Int × Int × Int)) : C := slv 3 r3 (0, 0, 0) l
/-- A row that is owned, and holds a list. -/
abbrev rowv {α : Type} (e : TypeId) (s : Nat) (row : α → List D) (d : α) (l : List α) : Ent := .row e s l.length (fun i => row (l.getD i d)) false
theorem VEq.ms {id n m : Nat} (h : n = m) : VEq (.c (.ms id n)) (.c (.ms id m)) := by subst h; exact .refl _
theorem CEq.ms {id n m : Nat} (h : n = m) : CEq (.ms id n) (.ms id m) := by subst h; exact .refl _
theorem CEq.int {k : IntKind} {a b : Int} (h : a = b) : CEq (.d (.v (.int k a))) (.d (.v (.int k b))) := by subst h; exact .refl _
theorem CEq.sl {s n m : Nat} {f g : Nat → List D} (hn : n = m) (h : ∀ i, i < n → f i = g i) : CEq (.d (.sl s n f)) (.d (.sl s m g)) := by subst hn; exact .d _ _ (.sl _ _ _ _ h)
theorem CEq.nil {s : Nat} {g : Nat → List D} : CEq (.d (.v (.slice none 0 0))) (.d (.sl s 0 g)) := .d _ _ (.nil s g)
theorem VEq.nil {s : Nat} {g : Nat → List D} : VEq (.c (.d (.v (.slice none 0 0)))) (.c (.d (.sl s 0 g))) := .c _ _ .nil
/-- The same list. -/
theorem VEq.sll {α : Type} {s : Nat} {row : α → List D} {d : α} {l m : List α} (h : l = m) : VEq (.c (slv s row d l)) (.c (slv s row d m)) := by subst h; exact .refl _
theorem CEq.sll {α : Type} {s : Nat} {row : α → List D} {d : α} {l m : List α} (h : l = m) : CEq (slv s row d l) (slv s row d m) := by subst h; exact .refl _
def CEqs : List C → List C → Prop
  | [], [] => True
  | x :: xs, y :: ys => CEq x y ∧ CEqs xs ys
  | _, _ => False
theorem CEqs.length : ∀ {xs ys : List C}, CEqs xs ys → xs.length = ys.length
  | [], [], _ => rfl
  | x :: xs, y :: ys, h => by simp [CEqs.length h.2]
  | [], _ :: _, h => h.elim
  | _ :: _, [], h => h.elim
theorem CEqs.get : ∀ {xs ys : List C}, CEqs xs ys → ∀ (i : Nat) x y, xs[i]? = some x → ys[i]? = some y → CEq x y
  | [], [], _, i, x, y, h, _ => by simp at h
  | a :: xs, b :: ys, h, i, x, y, hx, hy => by
    cases i with
    | zero => simp at hx hy; subst hx; subst hy; exact h.1
    | succ i => exact CEqs.get h.2 i x y (by simpa using hx) (by simpa using hy)
  | [], _ :: _, h, _, _, _, _, _ => h.elim
  | _ :: _, [], h, _, _, _, _, _ => h.elim
theorem EEq.boxs {xs ys : List C} (h : CEqs xs ys) : EEq (.box xs) (.box ys) := .box xs ys h.length h.get
theorem VEq.aggs {xs ys : List C} (h : CEqs xs ys) : VEq (.agg xs) (.agg ys) := .agg xs ys h.length h.get
theorem EEq.same (x : Ent) : EEq x x := by
  cases x with
  | box xs => exact .box _ _ rfl fun i x y hx hy => by rw [hx] at hy; cases hy; exact .refl _
  | row => exact .row _ _ _ _ _ _ fun _ _ => rfl
  | lp => exact .lp _ _ _ _ _ fun _ => .refl _
theorem EEq.rowl {e : TypeId} {s n m : Nat} {f g : Nat → List D} {fz : Bool} (hn : n = m) (h : ∀ i, i < n → f i = g i) : EEq (.row e s n f fz) (.row e s m g fz) := by subst hn; exact .row _ _ _ _ _ _ h
/-- One element more. -/
theorem row_app {α : Type} {row : α → List D} {d : α} {l : List α} {x : α} {r : List D} (h : r = row x) (i : Nat) (hi : i < l.length + 1) : (if i < l.length then row (l.getD i d) else ([r].getD (i - l.length) [])) = row ((l ++ [x]).getD i d) := by
  subst h
  by_cases hlt : i < l.length
  · rw [if_pos hlt, List.getD_eq_getElem?_getD, List.getD_eq_getElem?_getD, List.getElem?_append_left hlt]
  · have : i = l.length := by omega
    subst this
    simp
theorem EEq.app {α : Type} {e : TypeId} {s : Nat} {row : α → List D} {d : α} {l l' : List α} (x : α) {r : List D} (h : r = row x) (hl : l' = l ++ [x]) : EEq (.row e s (l.length + 1) (fun i => if i < l.length then row (l.getD i d) else ([r].getD (i - l.length) [])) false) (rowv e s row d l') := by
  subst hl
  exact EEq.rowl (by simp) fun i hi => row_app h i hi
theorem EEq.one {α : Type} {e : TypeId} {s : Nat} {row : α → List D} {d : α} {l' : List α} (x : α) {r : List D} (h : r = row x) (hl : l' = [x]) : EEq (.row e s 1 (fun i => [r].getD i []) false) (rowv e s row d l') := by
  subst hl
  subst h
  exact EEq.rowl rfl fun i hi => by
    have : i = 0 := by omega
    subst this; rfl
theorem EEq.app1 {e : TypeId} {l l' : List Int} {a : Int} (hl : l' = l ++ [a]) : EEq (.row e 1 (l.length + 1) (fun i => if i < l.length then r1 (l.getD i 0) else ([[dI a]].getD (i - l.length) [])) false) (rowv e 1 r1 0 l') := EEq.app a rfl hl
theorem EEq.app2 {e : TypeId} {l l' : List (Int × Int)} {a b : Int} (hl : l' = l ++ [(a, b)]) : EEq (.row e 2 (l.length + 1) (fun i => if i < l.length then r2 (l.getD i (0, 0)) else ([[dI a, dI b]].getD (i - l.length) [])) false) (rowv e 2 r2 (0, 0) l') := EEq.app (a, b) rfl hl
theorem EEq.app3 {e : TypeId} {l l' : List (Int × Int × Int)} {a b c : Int} (hl : l' = l ++ [(a, b, c)]) : EEq (.row e 3 (l.length + 1) (fun i => if i < l.length then r3 (l.getD i (0, 0, 0)) else ([[dI a, dI b, dI c]].getD (i - l.length) [])) false) (rowv e 3 r3 (0, 0, 0) l') := EEq.app (a, b, c) rfl hl
theorem CEq.li_1 {a0 : Int} : CEq (.d (.sl 1 [[dI a0]].length fun i => [[dI a0]].getD i [])) (ints [a0]) := CEq.sl rfl (fun i hi => by
  rcases i with _ | i
  · rfl
  exact absurd hi (by simp only [List.length_cons, List.length_nil]; omega))
theorem VEq.li_1 {a0 : Int} : VEq (.c (.d (.sl 1 [[dI a0]].length fun i => [[dI a0]].getD i []))) (.c (ints [a0])) := .c _ _ CEq.li_1
theorem CEq.li_2 {a0 a1 : Int} : CEq (.d (.sl 1 [[dI a0], [dI a1]].length fun i => [[dI a0], [dI a1]].getD i [])) (ints [a0, a1]) := CEq.sl rfl (fun i hi => by
  rcases i with _ | i
  · rfl
  rcases i with _ | i
  · rfl
  exact absurd hi (by simp only [List.length_cons, List.length_nil]; omega))
theorem VEq.li_2 {a0 a1 : Int} : VEq (.c (.d (.sl 1 [[dI a0], [dI a1]].length fun i => [[dI a0], [dI a1]].getD i []))) (.c (ints [a0, a1])) := .c _ _ CEq.li_2
theorem CEq.li_3 {a0 a1 a2 : Int} : CEq (.d (.sl 1 [[dI a0], [dI a1], [dI a2]].length fun i => [[dI a0], [dI a1], [dI a2]].getD i [])) (ints [a0, a1, a2]) := CEq.sl rfl (fun i hi => by
  rcases i with _ | i
  · rfl
  rcases i with _ | i
  · rfl
  rcases i with _ | i
  · rfl
  exact absurd hi (by simp only [List.length_cons, List.length_nil]; omega))
theorem VEq.li_3 {a0 a1 a2 : Int} : VEq (.c (.d (.sl 1 [[dI a0], [dI a1], [dI a2]].length fun i => [[dI a0], [dI a1], [dI a2]].getD i []))) (.c (ints [a0, a1, a2])) := .c _ _ CEq.li_3
theorem CEq.li_4 {a0 a1 a2 a3 : Int} : CEq (.d (.sl 1 [[dI a0], [dI a1], [dI a2], [dI a3]].length fun i => [[dI a0], [dI a1], [dI a2], [dI a3]].getD i [])) (ints [a0, a1, a2, a3]) := CEq.sl rfl (fun i hi => by
  rcases i with _ | i
  · rfl
  rcases i with _ | i
  · rfl
  rcases i with _ | i
  · rfl
  rcases i with _ | i
  · rfl
  exact absurd hi (by simp only [List.length_cons, List.length_nil]; omega))
theorem VEq.li_4 {a0 a1 a2 a3 : Int} : VEq (.c (.d (.sl 1 [[dI a0], [dI a1], [dI a2], [dI a3]].length fun i => [[dI a0], [dI a1], [dI a2], [dI a3]].getD i []))) (.c (ints [a0, a1, a2, a3])) := .c _ _ CEq.li_4
theorem CEq.lp_1 {a0 b0 : Int} : CEq (.d (.sl 2 [[dI a0, dI b0]].length fun i => [[dI a0, dI b0]].getD i [])) (prs [(a0, b0)]) := CEq.sl rfl (fun i hi => by
  rcases i with _ | i
  · rfl
  exact absurd hi (by simp only [List.length_cons, List.length_nil]; omega))
theorem VEq.lp_1 {a0 b0 : Int} : VEq (.c (.d (.sl 2 [[dI a0, dI b0]].length fun i => [[dI a0, dI b0]].getD i []))) (.c (prs [(a0, b0)])) := .c _ _ CEq.lp_1
theorem CEq.lp_2 {a0 b0 a1 b1 : Int} : CEq (.d (.sl 2 [[dI a0, dI b0], [dI a1, dI b1]].length fun i => [[dI a0, dI b0], [dI a1, dI b1]].getD i [])) (prs [(a0, b0), (a1, b1)]) := CEq.sl rfl (fun i hi => by
  rcases i with _ | i
  · rfl
  rcases i with _ | i
  · rfl
  exact absurd hi (by simp only [List.length_cons, List.length_nil]; omega))
theorem VEq.lp_2 {a0 b0 a1 b1 : Int} : VEq (.c (.d (.sl 2 [[dI a0, dI b0], [dI a1, dI b1]].length fun i => [[dI a0, dI b0], [dI a1, dI b1]].getD i []))) (.c (prs [(a0, b0), (a1, b1)])) := .c _ _ CEq.lp_2
theorem CEq.lp_3 {a0 b0 a1 b1 a2 b2 : Int} : CEq (.d (.sl 2 [[dI a0, dI b0], [dI a1, dI b1], [dI a2, dI b2]].length fun i => [[dI a0, dI b0], [dI a1, dI b1], [dI a2, dI b2]].getD i [])) (prs [(a0, b0), (a1, b1), (a2, b2)]) := CEq.sl rfl (fun i hi => by
  rcases i with _ | i
  · rfl
  rcases i with _ | i
  · rfl
  rcases i with _ | i
  · rfl
  exact absurd hi (by simp only [List.length_cons, List.length_nil]; omega))
theorem VEq.lp_3 {a0 b0 a1 b1 a2 b2 : Int} : VEq (.c (.d (.sl 2 [[dI a0, dI b0], [dI a1, dI b1], [dI a2, dI b2]].length fun i => [[dI a0, dI b0], [dI a1, dI b1], [dI a2, dI b2]].getD i []))) (.c (prs [(a0, b0), (a1, b1), (a2, b2)])) := .c _ _ CEq.lp_3
theorem CEq.lp_4 {a0 b0 a1 b1 a2 b2 a3 b3 : Int} : CEq (.d (.sl 2 [[dI a0, dI b0], [dI a1, dI b1], [dI a2, dI b2], [dI a3, dI b3]].length fun i => [[dI a0, dI b0], [dI a1, dI b1], [dI a2, dI b2], [dI a3, dI b3]].getD i [])) (prs [(a0, b0), (a1, b1), (a2, b2), (a3, b3)]) := CEq.sl rfl (fun i hi => by
  rcases i with _ | i
  · rfl
  rcases i with _ | i
  · rfl
  rcases i with _ | i
  · rfl
  rcases i with _ | i
  · rfl
  exact absurd hi (by simp only [List.length_cons, List.length_nil]; omega))
theorem VEq.lp_4 {a0 b0 a1 b1 a2 b2 a3 b3 : Int} : VEq (.c (.d (.sl 2 [[dI a0, dI b0], [dI a1, dI b1], [dI a2, dI b2], [dI a3, dI b3]].length fun i => [[dI a0, dI b0], [dI a1, dI b1], [dI a2, dI b2], [dI a3, dI b3]].getD i []))) (.c (prs [(a0, b0), (a1, b1), (a2, b2), (a3, b3)])) := .c _ _ CEq.lp_4
theorem CEq.lt_1 {a0 b0 c0 : Int} : CEq (.d (.sl 3 [[dI a0, dI b0, dI c0]].length fun i => [[dI a0, dI b0, dI c0]].getD i [])) (trs [(a0, b0, c0)]) := CEq.sl rfl (fun i hi => by
  rcases i with _ | i
  · rfl
  exact absurd hi (by simp only [List.length_cons, List.length_nil]; omega))
theorem VEq.lt_1 {a0 b0 c0 : Int} : VEq (.c (.d (.sl 3 [[dI a0, dI b0, dI c0]].length fun i => [[dI a0, dI b0, dI c0]].getD i []))) (.c (trs [(a0, b0, c0)])) := .c _ _ CEq.lt_1
theorem CEq.lt_2 {a0 b0 c0 a1 b1 c1 : Int} : CEq (.d (.sl 3 [[dI a0, dI b0, dI c0], [dI a1, dI b1, dI c1]].length fun i => [[dI a0, dI b0, dI c0], [dI a1, dI b1, dI c1]].getD i [])) (trs [(a0, b0, c0), (a1, b1, c1)]) := CEq.sl rfl (fun i hi => by
  rcases i with _ | i
  · rfl
  rcases i with _ | i
  · rfl
  exact absurd hi (by simp only [List.length_cons, List.length_nil]; omega))
theorem VEq.lt_2 {a0 b0 c0 a1 b1 c1 : Int} : VEq (.c (.d (.sl 3 [[dI a0, dI b0, dI c0], [dI a1, dI b1, dI c1]].length fun i => [[dI a0, dI b0, dI c0], [dI a1, dI b1, dI c1]].getD i []))) (.c (trs [(a0, b0, c0), (a1, b1, c1)])) := .c _ _ CEq.lt_2
theorem CEq.lt_3 {a0 b0 c0 a1 b1 c1 a2 b2 c2 : Int} : CEq (.d (.sl 3 [[dI a0, dI b0, dI c0], [dI a1, dI b1, dI c1], [dI a2, dI b2, dI c2]].length fun i => [[dI a0, dI b0, dI c0], [dI a1, dI b1, dI c1], [dI a2, dI b2, dI c2]].getD i [])) (trs [(a0, b0, c0), (a1, b1, c1), (a2, b2, c2)]) := CEq.sl rfl (fun i hi => by
  rcases i with _ | i
  · rfl
  rcases i with _ | i
  · rfl
  rcases i with _ | i
  · rfl
  exact absurd hi (by simp only [List.length_cons, List.length_nil]; omega))
theorem VEq.lt_3 {a0 b0 c0 a1 b1 c1 a2 b2 c2 : Int} : VEq (.c (.d (.sl 3 [[dI a0, dI b0, dI c0], [dI a1, dI b1, dI c1], [dI a2, dI b2, dI c2]].length fun i => [[dI a0, dI b0, dI c0], [dI a1, dI b1, dI c1], [dI a2, dI b2, dI c2]].getD i []))) (.c (trs [(a0, b0, c0), (a1, b1, c1), (a2, b2, c2)])) := .c _ _ CEq.lt_3
section
variable {P : Program} {N base : Nat}
/-- These slots alone. -/
def keepK : List Nat → List (Nat × V) → (List (Nat × V) → Prop) → Prop
  | [], _, k => k []
  | t :: ts, env, k => frV (lk env t) fun v => keepK ts env fun e => k ((t, v) :: e)
def keepE (env : List (Nat × V)) : List Nat → List (Nat × V)
  | [] => []
  | t :: ts => (t, lk env t) :: keepE env ts
theorem keepK_eq : ∀ (ts : List Nat) (env : List (Nat × V)) (k : List (Nat × V) → Prop), keepK ts env k = k (keepE env ts)
  | [], env, k => rfl
  | t :: ts, env, k => by simp only [keepK, frV_eq, keepK_eq ts, keepE]
theorem lk_keepE {env : List (Nat × V)} {t : Nat} : ∀ (ts : List Nat), RI (lk env t) (lk (keepE env ts) t)
  | [] => fun _ _ _ _ => .unk _
  | x :: ts => by
    rw [keepE, lk_cons]
    split
    · rename_i h; subst h; exact RI.refl _
    · exact lk_keepE ts
theorem Mv.keep {env : List (Nat × V)} {σ : Store} {nx : Nat} (ts : List Nat) : Mv base ⟨env, σ, nx⟩ ⟨keepE env ts, σ, nx⟩ := Mv.env fun t => lk_keepE ts
theorem Sat.keep {x : LCode} {env : List (Nat × V)} {σ : Store} {nx : Nat} {Q : Exit → St → Prop} (ts : List Nat) (h : keepK ts env fun env' => SatL P N base x ⟨env', σ, nx⟩ Q) : SatL P N base x ⟨env, σ, nx⟩ Q := by
  rw [keepK_eq] at h
  exact ⟨Sat.from (Mv.keep ts) h.h⟩
theorem RetQ.of {nx : Nat} {rl : List RL} {vs vs0 : List V} {σ' : Store} {nx' : Nat} {e : Exit} {env : List (Nat × V)} {σ : Store} {nx1 : Nat} (he : e = .normal ∨ e = .ret) (hres : resAll env σ rl = some vs0) (hl : Nat.beq vs0.length vs.length = true) (h : Mv nx ⟨argEnv 0 vs0, σ, nx1⟩ ⟨argEnv 0 vs, σ', nx'⟩) : RetQ nx rl vs σ' nx' e ⟨env, σ, nx1⟩ :=
  ⟨he, vs0, hres, Nat.eq_of_beq_eq_true hl, h⟩
theorem Mv.plain {nx nx1 nx' : Nat} {env : List (Nat × V)} {σ : Store} {vs : List V} (hle : Nat.ble nx nx' = true) (h : envIs env (argEnv 0 vs)) : Mv nx ⟨env, σ, nx1⟩ ⟨argEnv 0 vs, [], nx'⟩ :=
  Mv.weaken (Wk.plain (Nat.le_of_ble_eq_true hle) h)
/-- A row within an aggregate is closed. -/
def putAt : List C → Nat → C → List C
  | [], _, _ => []
  | _ :: cs, 0, x => x :: cs
  | c :: cs, n + 1, x => c :: putAt cs n x
theorem putAt_get : ∀ (cs : List C) (n i : Nat) (x : C), (putAt cs n x)[i]? = if i = n ∧ n < cs.length then some x else cs[i]?
  | [], n, i, x => by simp [putAt]
  | c :: cs, 0, i, x => by cases i <;> simp [putAt]
  | c :: cs, n + 1, i, x => by cases i <;> simp [putAt, putAt_get cs n]
theorem putAt_length : ∀ (cs : List C) (n : Nat) (x : C), (putAt cs n x).length = cs.length
  | [], _, _ => rfl
  | _ :: _, 0, _ => rfl
  | _ :: cs, n + 1, x => by simp [putAt, putAt_length cs n x]
theorem Mv.freezeA {env : List (Nat × V)} {σ : Store} {nx : Nat} (t j id : Nat) {cs : List C} {n : Nat} {e : TypeId} {s m : Nat} {f : Nat → List D} {fz : Bool} (h : lk env t = .agg cs) (hj : cs[j]? = some (.ms id n)) (hg : get σ id = some (.row e s m f fz)) (hn : n ≤ m) :
    Mv base ⟨env, σ, nx⟩ ⟨(t, .agg (putAt cs j (.d (.sl s n f)))) :: env, set σ id (.row e s m f true), nx⟩ := fun N B0 Γ w a hc => by
  obtain ⟨Γ', b, hb, rfl, h1, h2⟩ := hc.freeze hg
  refine ⟨_, ⟨h1.size, fun t' => ?_, h1.ok, h1.free, h1.le, h1.dfs⟩, h2⟩
  rw [lk_cons]
  split
  · rename_i ht
    subst ht
    have h3 := hc.env t
    have h4 := h1.env t
    simp only at h3 h4
    rw [h] at h3 h4
    generalize a.tmps.getD t undef = u at h3 h4
    cases h3 with
    | agg _ us hl hr =>
      refine .agg _ _ (by rw [hl, putAt_length]) (fun i c u hc' hu => ?_)
      rw [putAt_get] at hc'
      split at hc'
      · rename_i hi
        cases hc'
        obtain ⟨rfl, hi⟩ := hi
        have hr0 := hr i _ u hj hu
        obtain ⟨b', hb', hd⟩ := ms_data hc.ok hg hn hr0
        rw [hb] at hb'; cases hb'
        exact hd _ (fun k hk => .inl hk) (fun hcc => .inr ⟨rfl, hcc⟩)
      · cases h4 with
        | agg _ _ _ hr' => exact hr' i c u hc' hu
  · exact h1.env t'
/-- At a call: the row of slot t is closed. -/
theorem OpsL.frz {ops : List LIns} {K : St → Prop} {env : List (Nat × V)} {σ : Store} {nx : Nat} (t id : Nat) {n : Nat} {e : TypeId} {s m : Nat} {f : Nat → List D} {fz : Bool} (h : lk env t = .c (.ms id n)) (hg : get σ id = some (.row e s m f fz)) (hn : n ≤ m)
    (k : frS (set σ id (.row e s m f true)) fun σ' => OpsL P N base ops ⟨(t, .c (.d (.sl s n f))) :: env, σ', nx⟩ K) : OpsL P N base ops ⟨env, σ, nx⟩ K := by
  rw [frS_eq] at k
  exact ⟨Ops.from (Mv.freeze t id h hg hn) k.h⟩
/-- At the end of a loop: the row of slot t is closed. -/
theorem MvQ.frz {Q : Exit → St → Prop} {x : Exit} {env : List (Nat × V)} {σ : Store} {nx : Nat} (t id : Nat) {n : Nat} {e : TypeId} {s m : Nat} {f : Nat → List D} {fz : Bool} (h : lk env t = .c (.ms id n)) (hg : get σ id = some (.row e s m f fz)) (hn : n ≤ m)
    (k : frS (set σ id (.row e s m f true)) fun σ' => MvQ base Q x ⟨(t, .c (.d (.sl s n f))) :: env, σ', nx⟩) : MvQ base Q x ⟨env, σ, nx⟩ := by
  rw [frS_eq] at k
  exact MvQ.from (Mv.freeze t id h hg hn) k
/-- A nil slice in a box gets a name. -/
theorem Mv.nilB {env : List (Nat × V)} {σ : Store} {nx : Nat} (idb j : Nat) (e : TypeId) (s : Nat) (f : Nat → List D) {cs : List C} (hg : get σ idb = some (.box cs)) (hj : cs[j]? = some (.d (.v (.slice none 0 0)))) :
    Mv base ⟨env, σ, nx⟩ ⟨env, set ((nx, .row e s 0 f false) :: σ) idb (.box (putAt cs j (.ms nx 0))), nx + 1⟩ := fun N B0 Γ w a hc => by
  have hid := hc.free nx (Nat.le_refl _)
  obtain ⟨h1, h2⟩ := name_nil hc.ok hid hc.le e s f
  obtain ⟨b, hb, hok⟩ := hc.ok.ok idb _ hg
  have hne : idb ≠ nx := fun h => by subst h; rw [hid] at hb; cases hb
  have hg' : get ((nx, Ent.row e s 0 f false) :: σ) idb = some (.box cs) := by rw [get_cons_other hne]; exact hg
  have hb' : (Γ.upd nx 0 none).ρ idb = some b := by rw [upd_ρ hne]; exact hb
  have hle := CxLe.upd Γ 0 none hid
  obtain ⟨b2, hb2, hok2⟩ := h1.ok idb _ hg'
  rw [hb'] at hb2; cases hb2
  obtain ⟨hI, xs, t, hh, hl, hr⟩ := hok2
  have h3 := h1.modify (w' := w) (e' := .box (putAt cs j (.ms nx 0))) hg' hb' trivial (Nat.le_refl _) (fun _ _ _ => rfl) ⟨hI, xs, t, hh, by rw [hl, putAt_length], fun i c hc' => by
    rw [putAt_get] at hc'
    split at hc'
    · rename_i hi
      cases hc'
      obtain ⟨rfl, hi⟩ := hi
      obtain ⟨x, hx, hrx⟩ := hr i _ hj
      refine ⟨x, hx, 0, upd_ρ_same, .inl ⟨rfl, upd_κ_same, ?_⟩⟩
      generalize hd : D.v (.slice none 0 0) = d at hrx
      cases (show RepD _ w d x from hrx) <;> first | cases hd
      rfl
    · exact hr i c hc'⟩
  have hext : Ext base Γ w σ (Γ.upd nx 0 none) w (set ((nx, .row e s 0 f false) :: σ) idb (.box (putAt cs j (.ms nx 0)))) :=
    ⟨h2.os, h2.tape, h2.output, h2.size, h2.im, h2.new, h2.ρ, h2.κ, h2.keep, fun k hk => h2.live k (live_set hg' trivial hk)⟩
  refine ⟨_, ⟨hc.size, fun t' => (hc.env t').mono hle (fun _ _ => rfl), h3, fun id hid' => ?_, Nat.le_succ_of_le hc.le, ?_⟩, hext⟩
  · rw [upd_ρ (by have : nx + 1 ≤ id := hid'; omega)]; exact hc.free id (by have : nx + 1 ≤ id := hid'; show nx ≤ id; omega)
  · obtain ⟨Ds, d1, d2, d3⟩ := hc.dfs
    refine ⟨Ds, d1, d2, fun D hD => ?_⟩
    obtain ⟨d4, d5, d6, d7⟩ := d3 D hD
    refine ⟨d4, d5, fun hlv => ?_, d7⟩
    rcases hext.live D hlv with h3 | h3
    · exact d6 h3
    · have := (Array.getElem?_eq_some_iff.1 d7).1; omega
theorem Sat.nilB {x : LCode} {env : List (Nat × V)} {σ : Store} {nx : Nat} {Q : Exit → St → Prop} (idb j : Nat) (e : TypeId) (s : Nat) (f : Nat → List D) {cs : List C} (hg : get σ idb = some (.box cs)) (hj : cs[j]? = some (.d (.v (.slice none 0 0))))
    (h : frS (set ((nx, .row e s 0 f false) :: σ) idb (.box (putAt cs j (.ms nx 0)))) fun σ' => frNat (nx + 1) fun nx' => SatL P N base x ⟨env, σ', nx'⟩ Q) : SatL P N base x ⟨env, σ, nx⟩ Q := by
  rw [frS_eq, frNat_eq] at h
  exact ⟨Sat.from (Mv.nilB idb j e s f hg hj) h.h⟩
/-- A nil slice in a slot gets a name. -/
theorem Sat.nilS {x : LCode} {env : List (Nat × V)} {σ : Store} {nx : Nat} {Q : Exit → St → Prop} (t : Nat) (e : TypeId) (s : Nat) (f : Nat → List D) (h : lk env t = .c (.d (.v (.slice none 0 0))))
    (k : frNat (nx + 1) fun nx' => SatL P N base x ⟨(t, .c (.ms nx 0)) :: env, (nx, .row e s 0 f false) :: σ, nx'⟩ Q) : SatL P N base x ⟨env, σ, nx⟩ Q := by
  rw [frNat_eq] at k
  exact ⟨Sat.from (Mv.nilms t e s f h) k.h⟩
end
end Go.Pw

set_option linter.unusedVariables false
set_option linter.unusedSectionVars false
namespace Go.Pw
open Go Go.RowKit Go.ChangeShapes Go.WideShapes
inductive Sh
  | int (k : IntKind)
  | bool
  | str
  | sl (row : List Sh)
/-- Shapes of a struct's fields, laid one behind the other. -/
def shFields (cells : TypeId → Nat) (sh : TypeId → Option (List Sh)) : Nat → List Field → Option (List Sh)
  | _, [] => some []
  | o, f :: fs => if f.offset = o then (sh f.type).bind fun a => if a.length = cells f.type then (shFields cells sh (o + cells f.type) fs).map fun b => a ++ b else none else none
/-- The shape of a type's cells. -/
def shOf (P : Program) : Nat → TypeId → Option (List Sh)
  | 0, _ => none
  | m + 1, t => match P.underlying t with
    | some (.int k) => some [.int k]
    | some .bool => some [.bool]
    | some .string => some [.str]
    | some (.struct fs) => (shFields P.cellsOf (shOf P m) 0 fs.toList).bind fun l => if l.length = P.cellsOf t then some l else none
    | some (.array n e) => (shOf P m e).bind fun a => if a.length = P.cellsOf e ∧ n * P.cellsOf e = P.cellsOf t then some (List.replicate n a).flatten else none
    | some (.slice e) => (shOf P m e).bind fun a => if a.length = P.cellsOf e ∧ a.length ≠ 0 then some [.sl a] else none
    | _ => none
mutual
def OkD : Sh → D → Prop
  | .int k, d => ∃ n, d = .v (.int k n) ∧ k.has n = true
  | .bool, d => ∃ b, d = .v (.bool b)
  | .str, d => ∃ s : ByteArray, d = .v (.string s) ∧ s.size ≤ maxLen
  | .sl row, d => ∃ n f, d = .sl row.length n f ∧ n ≤ maxLen ∧ ∀ i, i < n → OkDs row (f i)
def OkDs : List Sh → List D → Prop
  | [], [] => True
  | s :: ss, d :: ds => OkD s d ∧ OkDs ss ds
  | _, _ => False
end
theorem OkDs.length : ∀ {ss : List Sh} {ds : List D}, OkDs ss ds → ds.length = ss.length
  | [], [], _ => rfl
  | s :: ss, d :: ds, h => by unfold OkDs at h; simp [OkDs.length h.2]
  | [], _ :: _, h => by unfold OkDs at h; exact h.elim
  | _ :: _, [], h => by unfold OkDs at h; exact h.elim
theorem OkDs.app : ∀ {ss tt : List Sh} {ds es : List D}, OkDs ss ds → OkDs tt es → OkDs (ss ++ tt) (ds ++ es)
  | [], _, [], _, _, h => h
  | s :: ss, tt, d :: ds, es, h, h' => by
    unfold OkDs at h
    show OkDs (s :: (ss ++ tt)) (d :: (ds ++ es))
    unfold OkDs
    exact ⟨h.1, OkDs.app h.2 h'⟩
  | [], _, _ :: _, _, h, _ => by unfold OkDs at h; exact h.elim
  | _ :: _, _, [], _, h, _ => by unfold OkDs at h; exact h.elim
/-- Cells that stand for data. -/
def Reps (I : Nat → Prop) (w : World) (ds : List D) (cs : List Value) : Prop := cs.length = ds.length ∧ ∀ (i : Nat) d u, ds[i]? = some d → cs[i]? = some u → RepD I w d u
theorem Reps.nil {I : Nat → Prop} {w : World} : Reps I w [] [] := ⟨rfl, fun i d u h => by simp at h⟩
theorem Reps.one {I : Nat → Prop} {w : World} {d : D} {u : Value} (h : RepD I w d u) : Reps I w [d] [u] := ⟨rfl, fun i d' u' hd hu => by
  cases i with
  | zero => simp at hd hu; subst hd; subst hu; exact h
  | succ i => simp at hd⟩
theorem Reps.app {I : Nat → Prop} {w : World} {ds es : List D} {cs us : List Value} (h : Reps I w ds cs) (h' : Reps I w es us) : Reps I w (ds ++ es) (cs ++ us) := by
  refine ⟨by simp [h.1, h'.1], fun i d u hd hu => ?_⟩
  rcases Nat.lt_or_ge i ds.length with hi | hi
  · rw [List.getElem?_append_left hi] at hd
    rw [List.getElem?_append_left (by rw [h.1]; exact hi)] at hu
    exact h.2 i d u hd hu
  · rw [List.getElem?_append_right hi] at hd
    rw [List.getElem?_append_right (by rw [h.1]; exact hi), h.1] at hu
    exact h'.2 _ d u hd hu
section
variable {H : Type} {enc : TypeId × Value → H} {P : Program} {w : World} {base : Nat} {spare : Nat → Bool} {held : Bool}
theorem trod_array' {t e : TypeId} {n fuel : Nat} {cs : List Value} {x : DataW H × List MemPlace} (ht : P.underlying t = some (.array n e)) (h : DataW.trod enc P w base spare held fuel t cs = some x) :
    ∃ m, cs.length = P.cellsOf t ∧ ∀ i, i < n → ∃ y, DataW.trod enc P w base spare held m e ((cs.drop (i * P.cellsOf e)).take (P.cellsOf e)) = some y := by
  cases fuel with
  | zero => simp [DataW.trod] at h
  | succ m =>
    unfold DataW.trod at h
    rw [ht] at h
    simp only at h
    split at h
    · rename_i hl
      rw [Option.map_eq_some_iff] at h
      obtain ⟨xs, h1, _⟩ := h
      refine ⟨m, hl, fun i hi => ?_⟩
      have := mapM_some_get h1 i i (by simp [hi])
      have hlen := mapM_some_length h1
      rw [List.getElem?_eq_getElem (by rw [hlen]; simpa using hi)] at this
      exact ⟨_, this⟩
    · cases h
theorem trod_fields {m : Nat} (ih : ∀ (t : TypeId) (sh : List Sh) (fuel : Nat) (cs : List Value) (x : DataW H × List MemPlace), shOf P m t = some sh → DataW.trod enc P w base spare held fuel t cs = some x → ∃ ds, OkDs sh ds ∧ Reps (fun b => b < w.heap.size) w ds cs) {fuel : Nat} :
    ∀ (fs : List Field) (o : Nat) (sh : List Sh) (cs : List Value), shFields P.cellsOf (shOf P m) o fs = some sh → (∀ f ∈ fs, ∃ y, DataW.trod enc P w base spare held fuel f.type ((cs.drop f.offset).take (P.cellsOf f.type)) = some y) →
      o + sh.length = cs.length → ∃ ds, OkDs sh ds ∧ Reps (fun b => b < w.heap.size) w ds (cs.drop o)
  | [], o, sh, cs, h, _, hl => by
    simp only [shFields, Option.some.injEq] at h
    subst h
    refine ⟨[], by unfold OkDs; trivial, ?_⟩
    rw [List.drop_of_length_le (by simp at hl; omega)]
    exact Reps.nil
  | f :: fs, o, sh, cs, h, hf, hl => by
    simp only [shFields] at h
    split at h
    · rename_i ho
      rw [Option.bind_eq_some_iff] at h
      obtain ⟨a, ha, h⟩ := h
      split at h
      · rename_i hal
        rw [Option.map_eq_some_iff] at h
        obtain ⟨b, hb, rfl⟩ := h
        obtain ⟨y, hy⟩ := hf f (by simp)
        rw [ho] at hy
        obtain ⟨ds, h1, h2⟩ := ih f.type a fuel _ y ha hy
        rw [List.length_append] at hl
        obtain ⟨es, h3, h4⟩ := trod_fields ih fs (o + P.cellsOf f.type) b cs hb (fun g hg => hf g (by simp [hg])) (by omega)
        refine ⟨ds ++ es, h1.app h3, ?_⟩
        have := h2.app h4
        rwa [← List.drop_drop, List.take_append_drop] at this
      · cases h
    · cases h
theorem reps_array {I : Nat → Prop} {c : Nat} {sh : List Sh} : ∀ (n : Nat) (cs : List Value), cs.length = n * c → (∀ i, i < n → ∃ ds, OkDs sh ds ∧ Reps I w ds ((cs.drop (i * c)).take c)) → ∃ ds, OkDs (List.replicate n sh).flatten ds ∧ Reps I w ds cs
  | 0, cs, hl, _ => by
    have : cs = [] := List.length_eq_zero_iff.1 (by simpa using hl)
    subst this
    exact ⟨[], by simp only [List.replicate, List.flatten]; unfold OkDs; trivial, Reps.nil⟩
  | n + 1, cs, hl, h => by
    obtain ⟨ds, h1, h2⟩ := h 0 (Nat.succ_pos _)
    obtain ⟨es, h3, h4⟩ := reps_array (c := c) (sh := sh) n (cs.drop c) (by rw [List.length_drop, hl, Nat.succ_mul]; omega) (fun i hi => by
      obtain ⟨es, h3, h4⟩ := h (i + 1) (by omega)
      refine ⟨es, h3, ?_⟩
      rwa [List.drop_drop, show c + i * c = (i + 1) * c by rw [Nat.succ_mul]; omega])
    refine ⟨ds ++ es, ?_, ?_⟩
    · rw [List.replicate_succ, List.flatten_cons]; exact h1.app h3
    · simp only [Nat.zero_mul, List.drop_zero] at h2
      have := h2.app h4
      rwa [List.take_append_drop] at this
theorem has_of_wf {k : IntKind} {n : Int} (h : (Lit.int k n).wf = true) : k.has n = true := by
  simpa [Lit.wf, IntKind.has] using h
theorem trod_reps : ∀ (m : Nat) (t : TypeId) (sh : List Sh) (fuel : Nat) (cs : List Value) (x : DataW H × List MemPlace), shOf P m t = some sh → DataW.trod enc P w base spare held fuel t cs = some x →
    ∃ ds, OkDs sh ds ∧ Reps (fun b => b < w.heap.size) w ds cs := by
  intro m
  induction m with
  | zero => intro t sh fuel cs x h; simp [shOf] at h
  | succ m ih =>
    intro t sh fuel cs x h hx
    unfold shOf at h
    split at h
    · rename_i k hu
      cases h
      obtain ⟨n, rfl, _, hw⟩ := DataW.trod_int hu hx
      exact ⟨[.v (.int k n)], by unfold OkDs; exact ⟨by unfold OkD; exact ⟨n, rfl, has_of_wf hw⟩, by unfold OkDs; trivial⟩, Reps.one (.v _ rfl)⟩
    · rename_i hu
      cases h
      obtain ⟨b, rfl, _⟩ := DataW.trod_bool hu hx
      exact ⟨[.v (.bool b)], by unfold OkDs; exact ⟨by unfold OkD; exact ⟨b, rfl⟩, by unfold OkDs; trivial⟩, Reps.one (.v _ rfl)⟩
    · rename_i hu
      cases h
      obtain ⟨s, rfl, _, hs⟩ := DataW.trod_string hu hx
      exact ⟨[.v (.string s)], by unfold OkDs; exact ⟨by unfold OkD; exact ⟨s, rfl, hs⟩, by unfold OkDs; trivial⟩, Reps.one (.v _ rfl)⟩
    · rename_i fs hu
      rw [Option.bind_eq_some_iff] at h
      obtain ⟨l, hl, h⟩ := h
      split at h
      · rename_i hc
        cases h
        obtain ⟨xs, n, rfl, _, hlen, hxl, hfs⟩ := DataW.trod_struct hu hx
        obtain ⟨ds, h1, h2⟩ := trod_fields (fuel := n) ih fs.toList 0 sh cs hl (fun f hf => by
          obtain ⟨i, hi, rfl⟩ := List.getElem_of_mem hf
          have h3 := hfs i fs.toList[i] (by simp)
          rw [List.getElem?_eq_getElem (by rw [hxl]; simpa using hi)] at h3
          exact ⟨_, h3⟩) (by omega)
        exact ⟨ds, h1, by simpa using h2⟩
      · cases h
    · rename_i n e hu
      rw [Option.bind_eq_some_iff] at h
      obtain ⟨a, ha, h⟩ := h
      split at h
      · rename_i hc
        cases h
        obtain ⟨m', hlen, hy⟩ := trod_array' hu hx
        exact reps_array n cs (by rw [hlen, hc.2]) (fun i hi => by
          obtain ⟨y, hy⟩ := hy i hi
          exact ih e a m' _ y ha hy)
      · cases h
    · rename_i e hu
      rw [Option.bind_eq_some_iff] at h
      obtain ⟨a, ha, h⟩ := h
      split at h
      · rename_i hca
        obtain ⟨hc, hca⟩ := hca
        cases h
        rcases Deep.open_slice hu hx with ⟨rfl, _⟩ | ⟨ad, len, cap, mm, n, D0, Pl, rfl, _, hlc, hcm, hmm, _, hel⟩
        · exact ⟨[.sl a.length 0 fun _ => []], by unfold OkDs; exact ⟨by unfold OkD; exact ⟨0, _, rfl, Nat.zero_le _, fun i hi => absurd hi (Nat.not_lt_zero _)⟩, by unfold OkDs; trivial⟩, Reps.one (.slE _ _ _ _)⟩
        · have hle : len ≤ mm := by rw [hmm]; split <;> omega
          have hall : ∀ i, i < len → ∃ p : List D × List Value, OkDs a p.1 ∧ Reps (fun b => b < w.heap.size) w p.1 p.2 ∧ w.cells? base (ad.add (i * P.cellsOf e)) (P.cellsOf e) = some p.2 := fun i hi => by
            obtain ⟨cs', h1, h2⟩ := hel i (by omega)
            obtain ⟨ds, h3, h4⟩ := ih e a n cs' _ ha h2
            exact ⟨(ds, cs'), h3, h4, h1⟩
          obtain ⟨f, hf⟩ := Deep.choose_lt hall
          refine ⟨[.sl a.length len fun i => (f i).1], by unfold OkDs; exact ⟨by unfold OkD; exact ⟨len, _, rfl, by omega, fun i hi => (hf i hi).1⟩, by unfold OkDs; trivial⟩, Reps.one ?_⟩
          by_cases h0 : len = 0
          · subst h0; exact .slE _ _ _ _
          refine .sl _ _ _ _ _ (fun i j => ((f i).2[j]?).getD (.bool false)) hlc ?_ (fun i hi => (hf i hi).1.length) (fun i j d hi hd => ?_) (fun i j d hi hd => ?_)
          · obtain ⟨_, h2, h3⟩ := hf 0 (by omega)
            have := World.cells?_block h3 (by omega)
            unfold Addr.add at this
            simpa using this
          · obtain ⟨h1, h2, h3⟩ := hf i hi
            obtain ⟨_, h4, h5⟩ := World.cells?_some h3
            have hj : j < (f i).1.length := (List.getElem?_eq_some_iff.1 hd).1
            rw [h2.1.symm, h4] at hj
            have h6 := h5 j hj
            rw [List.getElem?_eq_getElem (by omega)] at h6
            rw [Deep.add_add] at h6
            rw [hc, h6, List.getElem?_eq_getElem (by omega)]
            rfl
          · obtain ⟨h1, h2, h3⟩ := hf i hi
            have hj : j < (f i).1.length := (List.getElem?_eq_some_iff.1 hd).1
            rw [← h2.1] at hj
            rw [List.getElem?_eq_getElem hj]
            exact h2.2 j d _ hd (List.getElem?_eq_getElem hj)
      · cases h
    · cases h
/-- Arguments of given shapes: whether it is a struct or an array, and its cells. -/
def shAll (P : Program) : List TypeId → Option (List (Bool × List Sh))
  | [] => some []
  | t :: ts => (shOf P 20 t).bind fun s => if P.readableRec t = true ∧ t < P.types.size then (shAll P ts).map fun r => ((match P.underlying t with | some (.struct _) | some (.array _ _) => true | _ => false), s) :: r else none
def ArgOk : List (Bool × List Sh) → List V → Prop
  | [], [] => True
  | (b, sh) :: r, v :: vs => (∃ ds, OkDs sh ds ∧ (b = true ∧ v = .agg (ds.map .d) ∨ b = false ∧ ∃ d, ds = [d] ∧ v = .c (.d d))) ∧ ArgOk r vs
  | _, _ => False
theorem okWide_agg {t : TypeId} {v : Value} (h : Value.okWide P w .any base t v) (hb : (match P.underlying t with | some (.struct _) | some (.array _ _) => true | _ => false) = true) : ∃ cs, v = .agg cs := by
  unfold Value.okWide at h
  split at hb
  · rename_i fs hu; rw [hu] at h; exact ⟨_, h.choose_spec.1⟩
  · rename_i n e hu; rw [hu] at h; exact ⟨_, h.choose_spec.1⟩
  · cases hb
theorem below_all (hl : laidOutB P = true) {W W' : World} (hb : Below W.heap.size W W') : ∀ {ts : List TypeId} {vs : List Value} {ds : List (DataW H)} {p : List MemPlace} {shs : List (Bool × List Sh)}, shAll P ts = some shs →
    DataW.TrodAll enc P W 0 (fun _ => true) true ts vs ds p → DataW.TrodAll enc P W' 0 (fun b => decide (b < W.heap.size)) true ts vs ds p
  | [], _, _, _, _, _, h => by
    obtain ⟨rfl, rfl, rfl⟩ := trodAll_nil h
    exact trodAll_mk0
  | t :: ts, _, _, _, _, hs, h => by
    have hlt := h.lt
    obtain ⟨v, vs1, d, ds1, a, b, rfl, rfl, rfl, h1, h2⟩ := trodAll_cons h
    simp only [shAll, Option.bind_eq_some_iff] at hs
    obtain ⟨s, _, hs⟩ := hs
    split at hs
    · rename_i hr
      rw [Option.map_eq_some_iff] at hs
      obtain ⟨r, hr', _⟩ := hs
      exact ⟨a, b, Below.trod hl hr.1 hr.2 h1 hb (fun x hx => hlt x (by simp [hx])), below_all hl hb hr' h2, rfl⟩
    · cases hs
theorem args_rep {Γ : Cx} (hΓ : Γ.I = fun b => b < w.heap.size) : ∀ {ts : List TypeId} {vs : List Value} {ds : List (DataW H)} {p : List MemPlace} {shs : List (Bool × List Sh)}, shAll P ts = some shs →
    DataW.TrodAll enc P w 0 (fun _ => true) true ts vs ds p → (∀ (j : Nat) t v, ts[j]? = some t → vs[j]? = some v → Value.okWide P w .any base t v) →
    ∃ args : List V, ArgOk shs args ∧ vs.length = args.length ∧ ∀ (i : Nat) v u, args[i]? = some v → vs[i]? = some u → RepV Γ w v u
  | [], _, _, _, _, hs, h, _ => by
    obtain ⟨rfl, rfl, rfl⟩ := trodAll_nil h
    simp only [shAll, Option.some.injEq] at hs
    subst hs
    exact ⟨[], trivial, rfl, fun i v u h => by simp at h⟩
  | t :: ts, _, _, _, _, hs, h, hv => by
    obtain ⟨v, vs1, d, ds1, a, b, rfl, rfl, rfl, h1, h2⟩ := trodAll_cons h
    simp only [shAll, Option.bind_eq_some_iff] at hs
    obtain ⟨s, hs1, hs⟩ := hs
    split at hs
    · rename_i hr
      rw [Option.map_eq_some_iff] at hs
      obtain ⟨r, hr', rfl⟩ := hs
      obtain ⟨args, q1, q2, q3⟩ := args_rep hΓ hr' h2 (fun j t' v' hj hj' => hv (j + 1) t' v' (by simpa using hj) (by simpa using hj'))
      obtain ⟨fuel, hx⟩ := h1
      obtain ⟨es, e1, e2⟩ := trod_reps 20 t s fuel _ _ hs1 hx
      have hok := hv 0 t v rfl rfl
      have hcons : ∀ x : V, RepV Γ w x v → ∀ (i : Nat) (y : V) (u : Value), (x :: args)[i]? = some y → (v :: vs1)[i]? = some u → RepV Γ w y u := fun x hx i y u hy hu => by
        cases i with
        | zero => simp at hy hu; subst hy; subst hu; exact hx
        | succ i => exact q3 i y u (by simpa using hy) (by simpa using hu)
      cases hb : (match P.underlying t with | some (.struct _) | some (.array _ _) => true | _ => false) with
      | true =>
        obtain ⟨cs, rfl⟩ := okWide_agg hok hb
        refine ⟨.agg (es.map .d) :: args, ⟨⟨es, e1, .inl ⟨rfl, rfl⟩⟩, q1⟩, by simp [q2], hcons _ ?_⟩
        have e3 : cs.toList.length = es.length := e2.1
        refine .agg _ _ (by simpa using e3) (fun i c u hc hu => ?_)
        simp only [List.getElem?_map, Option.map_eq_some_iff] at hc
        obtain ⟨dd, hd, rfl⟩ := hc
        show RepD Γ.I w dd u
        rw [hΓ]
        exact e2.2 i dd u hd (by show cs.toList[i]? = some u; simpa using hu)
      | false =>
        have hone : v.cells.toList = [v] ∨ ∃ cs, v = .agg cs := by
          cases v <;> first | exact .inl rfl | exact .inr ⟨_, rfl⟩
        have hcell : Cell.okWide P w .any base t v := by
          unfold Value.okWide at hok
          split at hok
          · rename_i hu; rw [hu] at hb; cases hb
          · rename_i hu; rw [hu] at hb; cases hb
          · exact hok
        have hsl : s.length = 1 := by
          unfold shOf at hs1
          split at hs1
          · cases hs1; rfl
          · cases hs1; rfl
          · cases hs1; rfl
          · rename_i hu; rw [hu] at hb; cases hb
          · rename_i hu; rw [hu] at hb; cases hb
          · rw [Option.bind_eq_some_iff] at hs1
            obtain ⟨a, _, hs1⟩ := hs1
            split at hs1
            · cases hs1; rfl
            · cases hs1
          · cases hs1
        obtain ⟨dd, rfl⟩ : ∃ dd, es = [dd] := by
          have := e1.length
          rw [hsl] at this
          exact List.length_eq_one_iff.1 this
        refine ⟨.c (.d dd) :: args, ⟨⟨[dd], e1, .inr ⟨rfl, dd, rfl, rfl⟩⟩, q1⟩, by simp [q2], hcons _ ?_⟩
        have hvc : v.cells.toList = [v] := by
          rcases hone with h | ⟨cs, rfl⟩
          · exact h
          · exfalso
            unfold shOf at hs1
            split at hs1 <;> rename_i hu <;> first | (simp [Cell.okWide, Cell.ok, hu] at hcell; done) | (rw [hu] at hb; cases hb) | cases hs1
        refine .c _ _ ?_
        show RepD Γ.I w dd v
        rw [hΓ]
        exact e2.2 0 dd v rfl (by rw [hvc]; rfl)
    · cases hs
theorem storeOk_nil {Γ : Cx} (h : ∀ k, Γ.I k → k < w.heap.size) : StoreOk Γ w [] :=
  ⟨h, fun id e hg => by simp [get] at hg, fun i j k hi => by
    rcases hi with ⟨_, h⟩ | ⟨_, _, _, _, h, _⟩ | ⟨_, _, _, _, h⟩ <;> simp [get] at h⟩
theorem not_live_nil {Γ : Cx} {k : Nat} : ¬ Live Γ [] k := fun ⟨_, hi, _⟩ => by
  rcases hi with ⟨_, h⟩ | ⟨_, _, _, _, h, _⟩ | ⟨_, _, _, _, h⟩ <;> simp [get] at h
/-- A law from its contract. -/
theorem law_calls {f : FuncId} {F : Func} {s : ChangeSpec} {shs : List (Bool × List Sh)} {tb : TypeId} (hl : laidOutB P = true) (hs : shAll P F.params.toList = some shs) (hv : s.vars = []) (hfn : ∀ ds : List (DataW H), ds.length = F.params.size → s.fn H ds = { results := [.lit (.bool true)], args := ds })
    (hr : F.resultTypes = #[tb]) (htb : P.underlying tb = some .bool) (hp : ∀ args, ArgOk shs args → PFD P f args (vbl true)) (W : World) (base : Nat) (args : Array Value) (ds gs : List (DataW H)) (before : List MemPlace)
    (hval : ∀ (j : Nat) t v, F.params[j]? = some t → args[j]? = some v → Value.okWide P W .any base t v) (hW : DataW.Whole enc P F.params.toList s.vars false W args.toList ds gs before) :
    Calls P f args W fun e W' => ∃ v, e = .returned v ∧ s.post enc P F false true false false W args v W' := by
  have hW' := hW
  obtain ⟨p, q, hA, hV, rfl, hfz, hnd⟩ := hW
  rw [hv] at hV
  obtain ⟨rfl, rfl⟩ := trodVars_none hV
  let Γ : Cx := ⟨fun b => b < W.heap.size, fun _ => none, fun _ => none⟩
  obtain ⟨avs, h1, h2, h3⟩ := args_rep (Γ := Γ) rfl hs hA (fun j t v hj hj' => hval j t v (by simpa using hj) (by simpa using hj'))
  refine ((hp avs h1).h.2.2 Γ W args (storeOk_nil fun k hk => hk) (fun _ _ _ => rfl) ⟨by simpa using h2, fun i v u hv hu => h3 i v u hv (by simpa using hu)⟩).mono fun e W' hq => ?_
  obtain ⟨u, Γ', rfl, hu, _, _, _, hE⟩ := hq
  have hu : u = .bool true := by
    cases hu with
    | c _ _ h => cases (show RepD Γ'.I W' (.v (.bool true)) u from h); rfl
  subst hu
  have hb : Below W.heap.size W W' := ⟨hE.os, hE.tape, hE.output, hE.size, fun k hk => hE.keep k hk not_live_nil⟩
  have hlen : ds.length = F.params.size := by
    have : ∀ {ts : List TypeId} {vs : List Value} {ds : List (DataW H)} {p : List MemPlace}, DataW.TrodAll enc P W 0 (fun _ => true) true ts vs ds p → ds.length = ts.length := by
      intro ts
      induction ts with
      | nil => intro vs ds p h; obtain ⟨rfl, rfl, rfl⟩ := trodAll_nil h; rfl
      | cons t ts ih =>
        intro vs ds p h
        obtain ⟨v, vs1, d, ds1, a, b, rfl, rfl, rfl, h1, h2⟩ := trodAll_cons h
        simp [ih h2]
    simpa using this hA
  refine ⟨_, rfl, ds, [], p ++ [], [], p, [], hW', ?_, ?_, ?_, World.keptBut_mono (fun x hx => ⟨hx, .inr (.inl (by simpa using hx))⟩) (hb.frame _), fun h => by cases h⟩
  · rw [List.append_nil, hfn ds hlen, hr]
    exact trodAll_mk1 (shut_bool htb true)
  · rw [List.append_nil, hfn ds hlen]
    exact below_all hl hb hs hA
  · rw [List.append_nil, hfn ds hlen, hv]
    exact rfl
end
end Go.Pw

set_option linter.unusedVariables false
namespace Go.Pw
open Go Go.RowKit
theorem PFD.ri {P : Program} {f : FuncId} {args args' : List V} {v : V} (h : PFD P f args' v) (hr : RIs args args') : PFD P f args v :=
  ⟨h.h.1, h.h.2.1, fun Γ w us h1 h2 h3 => h.h.2.2 Γ w us h1 h2 (hr.rep h3)⟩
theorem okDs_cons {s : Sh} {ss : List Sh} {ds : List D} (h : OkDs (s :: ss) ds) : ∃ d es, ds = d :: es ∧ OkD s d ∧ OkDs ss es := by
  cases ds with
  | nil => unfold OkDs at h; exact h.elim
  | cons d es => unfold OkDs at h; exact ⟨d, es, rfl, h.1, h.2⟩
theorem okDs_nil {ds : List D} (h : OkDs [] ds) : ds = [] := by
  cases ds with
  | nil => rfl
  | cons d es => unfold OkDs at h; exact h.elim
theorem okD_int {k : IntKind} {d : D} (h : OkD (.int k) d) : ∃ n, d = .v (.int k n) ∧ k.has n = true := by unfold OkD at h; exact h
theorem okD_sl {row : List Sh} {d : D} (h : OkD (.sl row) d) : ∃ n f, d = .sl row.length n f ∧ n ≤ maxLen ∧ ∀ i, i < n → OkDs row (f i) := by unfold OkD at h; exact h
/-- A slice, as a list of what its rows are. -/
theorem okD_list {row : List Sh} {α : Type} {r : α → List D} {Q : α → Prop} (a0 : α) (hr : ∀ ds, OkDs row ds → ∃ a, ds = r a ∧ Q a) {d : D} (h : OkD (.sl row) d) :
    ∃ l : List α, CEq (.d d) (slv row.length r a0 l) ∧ l.length ≤ maxLen ∧ ∀ a ∈ l, Q a := by
  obtain ⟨n, f, rfl, hn, hf⟩ := okD_sl h
  have : ∀ i, ∃ a, i < n → f i = r a ∧ Q a := fun i => by
    by_cases hi : i < n
    · obtain ⟨a, ha⟩ := hr _ (hf i hi); exact ⟨a, fun _ => ha⟩
    · exact ⟨a0, fun h => absurd h hi⟩
  refine ⟨(List.range n).map fun i => Classical.choose (this i), .sl (by simp) fun i hi => ?_, by simpa using hn, fun a ha => ?_⟩
  · have h1 := (Classical.choose_spec (this i) hi).1
    rw [h1, List.getD_eq_getElem?_getD]
    simp [hi]
  · obtain ⟨i, hi, rfl⟩ := List.mem_map.1 ha
    exact (Classical.choose_spec (this i) (by simpa using hi)).2
abbrev i64 (n : Int) : Prop := IntKind.i64.has n = true
theorem row1 {ds : List D} (h : OkDs [.int .i64] ds) : ∃ a : Int, ds = r1 a ∧ i64 a := by
  obtain ⟨d, es, rfl, h1, h2⟩ := okDs_cons h
  obtain ⟨n, rfl, hn⟩ := okD_int h1
  rw [okDs_nil h2]
  exact ⟨n, rfl, hn⟩
theorem row2 {ds : List D} (h : OkDs [.int .i64, .int .i64] ds) : ∃ a : Int × Int, ds = r2 a ∧ i64 a.1 ∧ i64 a.2 := by
  obtain ⟨d, es, rfl, h1, h2⟩ := okDs_cons h
  obtain ⟨e, fs, rfl, h3, h4⟩ := okDs_cons h2
  obtain ⟨n, rfl, hn⟩ := okD_int h1
  obtain ⟨m, rfl, hm⟩ := okD_int h3
  rw [okDs_nil h4]
  exact ⟨(n, m), rfl, hn, hm⟩
theorem row3 {ds : List D} (h : OkDs [.int .i64, .int .i64, .int .i64] ds) : ∃ a : Int × Int × Int, ds = r3 a ∧ i64 a.1 ∧ i64 a.2.1 ∧ i64 a.2.2 := by
  obtain ⟨d, es, rfl, h1, h2⟩ := okDs_cons h
  obtain ⟨e, fs, rfl, h3, h4⟩ := okDs_cons h2
  obtain ⟨g, gs, rfl, h5, h6⟩ := okDs_cons h4
  obtain ⟨n, rfl, hn⟩ := okD_int h1
  obtain ⟨m, rfl, hm⟩ := okD_int h3
  obtain ⟨o, rfl, ho⟩ := okD_int h5
  rw [okDs_nil h6]
  exact ⟨(n, m, o), rfl, hn, hm, ho⟩
/-- What an argument of a shape is. -/
abbrev Arg (b : Bool) (sh : List Sh) (v : V) : Prop := ∃ ds, OkDs sh ds ∧ (b = true ∧ v = .agg (ds.map .d) ∨ b = false ∧ ∃ d, ds = [d] ∧ v = .c (.d d))
theorem arg_c {s : Sh} {v : V} (h : Arg false [s] v) : ∃ d, v = .c (.d d) ∧ OkD s d := by
  obtain ⟨ds, h1, ⟨h2, _⟩ | ⟨_, d, rfl, rfl⟩⟩ := h
  · cases h2
  · obtain ⟨d', es, h3, h4, h5⟩ := okDs_cons h1
    cases h3
    exact ⟨d, rfl, h4⟩
theorem arg_agg {sh : List Sh} {v : V} (h : Arg true sh v) : ∃ ds, v = .agg (ds.map .d) ∧ OkDs sh ds := by
  obtain ⟨ds, h1, ⟨_, rfl⟩ | ⟨h2, _⟩⟩ := h
  · exact ⟨ds, rfl, h1⟩
  · cases h2
theorem arg_ints {v : V} (h : Arg false [.sl [.int .i64]] v) : ∃ l : List Int, RI v (.c (ints l)) ∧ l.length ≤ maxLen ∧ ∀ a ∈ l, i64 a := by
  obtain ⟨d, rfl, h1⟩ := arg_c h
  obtain ⟨l, h2, h3⟩ := okD_list (0 : Int) (fun ds => row1) h1
  exact ⟨l, VEq.ri (.c _ _ h2), h3⟩
theorem arg_pr {v : V} (h : Arg true [.int .i64, .int .i64] v) : ∃ a : Int × Int, v = .agg [int a.1, int a.2] ∧ i64 a.1 ∧ i64 a.2 := by
  obtain ⟨ds, rfl, h1⟩ := arg_agg h
  obtain ⟨a, rfl, h2⟩ := row2 h1
  exact ⟨a, rfl, h2⟩
/-- A struct of numbers and a slice at its end. -/
theorem arg_line {v : V} (h : Arg true [.int .i64, .int .i64, .sl [.int .i64, .int .i64, .int .i64]] v) : ∃ (x z : Int) (l : List (Int × Int × Int)), RI v (.agg [int x, int z, trs l]) ∧ i64 x ∧ i64 z ∧ l.length ≤ maxLen ∧ ∀ a ∈ l, i64 a.1 ∧ i64 a.2.1 ∧ i64 a.2.2 := by
  obtain ⟨ds, rfl, h1⟩ := arg_agg h
  obtain ⟨d, es, rfl, h2, h3⟩ := okDs_cons h1
  obtain ⟨e, fs, rfl, h4, h5⟩ := okDs_cons h3
  obtain ⟨g, gs, rfl, h6, h7⟩ := okDs_cons h5
  obtain ⟨n, rfl, hn⟩ := okD_int h2
  obtain ⟨m, rfl, hm⟩ := okD_int h4
  obtain ⟨l, h8, h9⟩ := okD_list ((0, 0, 0) : Int × Int × Int) (fun ds => row3) h6
  rw [okDs_nil h7]
  refine ⟨n, m, l, VEq.ri (.agg _ _ rfl fun i x y hx hy => ?_), hn, hm, h9⟩
  match i with
  | 0 => simp at hx hy; subst hx; subst hy; exact .refl _
  | 1 => simp at hx hy; subst hx; subst hy; exact .refl _
  | 2 => simp at hx hy; subst hx; subst hy; exact h8
  | i + 3 => simp at hx
end Go.Pw

namespace Go.Pw
theorem Fork.yes {b : Bool} {p q : Prop} (hb : b = true) (hp : p) : Fork b p q := ⟨fun _ => hp, fun h => absurd (hb.symm.trans h) (by decide)⟩
theorem Fork.no {b : Bool} {p q : Prop} (hb : b = false) (hq : q) : Fork b p q := ⟨fun h => absurd (hb.symm.trans h) (by decide), fun _ => hq⟩
theorem nd_t {x : Prop} [Decidable x] (h : ¬ x) : (!decide x) = true := by rw [decide_eq_false h]; rfl
theorem nd_f {x : Prop} [Decidable x] (h : x) : (!decide x) = false := by rw [decide_eq_true h]; rfl
end Go.Pw

set_option linter.unusedVariables false
namespace Go.Pw
open Go Go.RowKit
theorem ob {p : Prop} (h : p := by first | trivial | omega | ((try simp only [R64, true_and, and_true, Int.toNat_natCast, List.length_cons, List.length_nil]); omega)) : p := h
theorem tt1 {b : Bool} (h : b = true := by first | exact rfl | (refine decide_eq_true ?_; omega) | (refine nd_t ?_; omega) | (simp only [decide_true, Bool.and_self, Bool.not_false] <;> fail)) : b = true := h
theorem ff1 {b : Bool} (h : b = false := by first | exact rfl | (refine decide_eq_false ?_; omega) | (refine nd_f ?_; omega) | (simp only [decide_true, Bool.and_self, Bool.not_true] <;> fail)) : b = false := h
theorem Owe.o {p q : Prop} (r : q) (l : p := by exact ob) : Owe p q := ⟨l, r⟩
theorem Owe.same {p q : Prop} (h : Owe p q) : Owe p q := h
theorem fkD {x p q : Prop} [h : Decidable x] (h1 : x → p) (h2 : ¬ x → q) : Fork (decide x) p q := Fork.dec h1 h2
theorem fkN {x p q : Prop} [h : Decidable x] (h1 : ¬ x → p) (h2 : x → q) : Fork (!decide x) p q := Fork.ndec h1 h2
theorem fkM {b : Bool} {p q : Prop} (h1 : b = true → p) (h2 : b = false → q) : Fork b p q := ⟨h1, h2⟩
theorem fkY {b : Bool} {p q : Prop} (hp : p) (hb : b = true := by exact tt1) : Fork b p q := Fork.yes hb hp
theorem fkF {b : Bool} {p q : Prop} (hq : q) (hb : b = false := by exact ff1) : Fork b p q := Fork.no hb hq
inductive QI where
  | v (x y : V)
  | c (x y : C)
  | e (x y : Ent)
  | vs (xs ys : List V)
  | cs (xs ys : List C)
  | en (env e0 : List (Nat × V))
  | eq (π : Nat → Nat) (env e0 : List (Nat × V))
  | st (π : Nat → Nat) (σ σ0 : Store)
def cloCB : C → Bool
  | .d _ | .tru | .fls | .rp _ | .z | .fn _ [] => true
  | _ => false
def cloCsB : List C → Bool
  | [] => true
  | c :: cs => cloCB c && cloCsB cs
def cloB : V → Bool
  | .c x => cloCB x
  | .agg cs => cloCsB cs
  | .unk => true
  | .tup _ => false
theorem cloCB_ok {c : C} (h : cloCB c = true) : cloC c := by
  unfold cloCB at h
  split at h <;> first | trivial | rfl | cases h
theorem cloCsB_ok : ∀ {cs : List C}, cloCsB cs = true → cloCs cs
  | [], _ => trivial
  | c :: cs, h => by
    simp only [cloCsB, Bool.and_eq_true] at h
    exact ⟨cloCB_ok h.1, cloCsB_ok h.2⟩
theorem cloB_ok {v : V} (h : cloB v = true) : clo v := by
  cases v with
  | c x => exact cloCB_ok h
  | agg cs => exact cloCsB_ok h
  | unk => trivial
  | tup => cases h
def QI.so : QI → Prop
  | .v x y => VEq x y
  | .c x y => CEq x y
  | .e x y => EEq x y
  | .vs xs ys => VEqs xs ys
  | .cs xs ys => CEqs xs ys
  | .en env e0 => envIs env e0
  | .eq π env e0 => envEq π env e0
  | .st π σ σ0 => stoEq π σ σ0
/-- One step of agreement. -/
inductive QQ : QI → Prop
  | vsn : QQ (.vs [] [])
  | vsc {x y : V} {xs ys : List V} (h : QI.so (.v x y)) (t : QI.so (.vs xs ys)) : QQ (.vs (x :: xs) (y :: ys))
  | csn : QQ (.cs [] [])
  | csc {x y : C} {xs ys : List C} (h : QI.so (.c x y)) (t : QI.so (.cs xs ys)) : QQ (.cs (x :: xs) (y :: ys))
  | enn {env : List (Nat × V)} : QQ (.en env [])
  | enc {env e0 : List (Nat × V)} {t : Nat} {v : V} (h : QI.so (.v (lk env t) v)) (c : cloB v = true) (r : QI.so (.en env e0)) : QQ (.en env ((t, v) :: e0))
  | eqn {π : Nat → Nat} {env : List (Nat × V)} : QQ (.eq π env [])
  | eqc {π : Nat → Nat} {env e0 : List (Nat × V)} {t : Nat} {v : V} (h : QI.so (.v (lk env t) (rnV π v))) (r : QI.so (.eq π env e0)) : QQ (.eq π env ((t, v) :: e0))
  | stn {π : Nat → Nat} {σ : Store} : QQ (.st π σ [])
  | stc {π : Nat → Nat} {σ σ0 : Store} {id : Nat} {x y : Ent} (g : get σ (π id) = some y) (h : QI.so (.e y (rnE π x))) (r : QI.so (.st π σ σ0)) : QQ (.st π σ ((id, x) :: σ0))
  | vr (x : V) : QQ (.v x x)
  | er (x : Ent) : QQ (.e x x)
  | cr (x : C) : QQ (.c x x)
  | tru {b : Bool} (h : b = true) : QQ (.v (.c .tru) (vbl b))
  | fls {b : Bool} (h : b = false) : QQ (.v (.c .fls) (vbl b))
  | bool {a b : Bool} (h : a = b) : QQ (.v (vbl a) (vbl b))
  | int {k : IntKind} {a b : Int} (h : a = b) : QQ (.v (vi k a) (vi k b))
  | nil {s : Nat} {g : Nat → List D} : QQ (.v (.c (.d (.v (.slice none 0 0)))) (.c (.d (.sl s 0 g))))
  | z {s : Nat} {g : Nat → List D} : QQ (.v (.c .z) (.c (.d (.sl s 0 g))))
  | li1 {a0 : Int} : QQ (.v (.c (.d (.sl 1 [[dI a0]].length fun i => [[dI a0]].getD i []))) (.c (ints [a0])))
  | li2 {a0 a1 : Int} : QQ (.v (.c (.d (.sl 1 [[dI a0], [dI a1]].length fun i => [[dI a0], [dI a1]].getD i []))) (.c (ints [a0, a1])))
  | li3 {a0 a1 a2 : Int} : QQ (.v (.c (.d (.sl 1 [[dI a0], [dI a1], [dI a2]].length fun i => [[dI a0], [dI a1], [dI a2]].getD i []))) (.c (ints [a0, a1, a2])))
  | li4 {a0 a1 a2 a3 : Int} : QQ (.v (.c (.d (.sl 1 [[dI a0], [dI a1], [dI a2], [dI a3]].length fun i => [[dI a0], [dI a1], [dI a2], [dI a3]].getD i []))) (.c (ints [a0, a1, a2, a3])))
  | lp1 {a0 b0 : Int} : QQ (.v (.c (.d (.sl 2 [[dI a0, dI b0]].length fun i => [[dI a0, dI b0]].getD i []))) (.c (prs [(a0, b0)])))
  | lp2 {a0 b0 a1 b1 : Int} : QQ (.v (.c (.d (.sl 2 [[dI a0, dI b0], [dI a1, dI b1]].length fun i => [[dI a0, dI b0], [dI a1, dI b1]].getD i []))) (.c (prs [(a0, b0), (a1, b1)])))
  | lp3 {a0 b0 a1 b1 a2 b2 : Int} : QQ (.v (.c (.d (.sl 2 [[dI a0, dI b0], [dI a1, dI b1], [dI a2, dI b2]].length fun i => [[dI a0, dI b0], [dI a1, dI b1], [dI a2, dI b2]].getD i []))) (.c (prs [(a0, b0), (a1, b1), (a2, b2)])))
  | lp4 {a0 b0 a1 b1 a2 b2 a3 b3 : Int} : QQ (.v (.c (.d (.sl 2 [[dI a0, dI b0], [dI a1, dI b1], [dI a2, dI b2], [dI a3, dI b3]].length fun i => [[dI a0, dI b0], [dI a1, dI b1], [dI a2, dI b2], [dI a3, dI b3]].getD i []))) (.c (prs [(a0, b0), (a1, b1), (a2, b2), (a3, b3)])))
  | lt1 {a0 b0 c0 : Int} : QQ (.v (.c (.d (.sl 3 [[dI a0, dI b0, dI c0]].length fun i => [[dI a0, dI b0, dI c0]].getD i []))) (.c (trs [(a0, b0, c0)])))
  | lt2 {a0 b0 c0 a1 b1 c1 : Int} : QQ (.v (.c (.d (.sl 3 [[dI a0, dI b0, dI c0], [dI a1, dI b1, dI c1]].length fun i => [[dI a0, dI b0, dI c0], [dI a1, dI b1, dI c1]].getD i []))) (.c (trs [(a0, b0, c0), (a1, b1, c1)])))
  | lt3 {a0 b0 c0 a1 b1 c1 a2 b2 c2 : Int} : QQ (.v (.c (.d (.sl 3 [[dI a0, dI b0, dI c0], [dI a1, dI b1, dI c1], [dI a2, dI b2, dI c2]].length fun i => [[dI a0, dI b0, dI c0], [dI a1, dI b1, dI c1], [dI a2, dI b2, dI c2]].getD i []))) (.c (trs [(a0, b0, c0), (a1, b1, c1), (a2, b2, c2)])))
  | ms {id n m : Nat} (h : n = m) : QQ (.v (.c (.ms id n)) (.c (.ms id m)))
  | sll {α : Type} {s : Nat} {row : α → List D} {d : α} {l m : List α} (h : l = m) : QQ (.v (.c (slv s row d l)) (.c (slv s row d m)))
  | aggs {xs ys : List C} (h : QI.so (.cs xs ys)) : QQ (.v (.agg xs) (.agg ys))
  | boxs {xs ys : List C} (h : QI.so (.cs xs ys)) : QQ (.e (.box xs) (.box ys))
  | app1 {e : TypeId} {l l' : List Int} {a : Int} (hl : l' = l ++ [a]) : QQ (.e (.row e 1 (l.length + 1) (fun i => if i < l.length then r1 (l.getD i 0) else ([[dI a]].getD (i - l.length) [])) false) (rowv e 1 r1 0 l'))
  | app2 {e : TypeId} {l l' : List (Int × Int)} {a b : Int} (hl : l' = l ++ [(a, b)]) : QQ (.e (.row e 2 (l.length + 1) (fun i => if i < l.length then r2 (l.getD i (0, 0)) else ([[dI a, dI b]].getD (i - l.length) [])) false) (rowv e 2 r2 (0, 0) l'))
  | app3 {e : TypeId} {l l' : List (Int × Int × Int)} {a b c : Int} (hl : l' = l ++ [(a, b, c)]) : QQ (.e (.row e 3 (l.length + 1) (fun i => if i < l.length then r3 (l.getD i (0, 0, 0)) else ([[dI a, dI b, dI c]].getD (i - l.length) [])) false) (rowv e 3 r3 (0, 0, 0) l'))
  | cms {id n m : Nat} (h : n = m) : QQ (.c (.ms id n) (.ms id m))
  | cint {k : IntKind} {a b : Int} (h : a = b) : QQ (.c (.d (.v (.int k a))) (.d (.v (.int k b))))
  | csll {α : Type} {s : Nat} {row : α → List D} {d : α} {l m : List α} (h : l = m) : QQ (.c (slv s row d l) (slv s row d m))
  | cnil {s : Nat} {g : Nat → List D} : QQ (.c (.d (.v (.slice none 0 0))) (.d (.sl s 0 g)))
  | cz {s : Nat} {g : Nat → List D} : QQ (.c .z (.d (.sl s 0 g)))
  | ctru {b : Bool} (h : b = true) : QQ (.c .tru (.d (.v (.bool b))))
  | cfls {b : Bool} (h : b = false) : QQ (.c .fls (.d (.v (.bool b))))
  | cbool {a b : Bool} (h : a = b) : QQ (.c (.d (.v (.bool a))) (.d (.v (.bool b))))
  | lit {α : Type} {s : Nat} {row : α → List D} {d : α} {l : List α} {rs : List (List D)} (h : rs = l.map row) : QQ (.v (.c (.d (.sl s rs.length fun i => rs.getD i []))) (.c (slv s row d l)))
  | clit {α : Type} {s : Nat} {row : α → List D} {d : α} {l : List α} {rs : List (List D)} (h : rs = l.map row) : QQ (.c (.d (.sl s rs.length fun i => rs.getD i [])) (slv s row d l))
theorem lit_eq {α : Type} {s : Nat} {row : α → List D} {d : α} {l : List α} {rs : List (List D)} (h : rs = l.map row) : CEq (.d (.sl s rs.length fun i => rs.getD i [])) (slv s row d l) := by
  subst h
  refine CEq.sl (by simp) fun i hi => ?_
  have hi : i < l.length := by simpa using hi
  rw [List.getD_eq_getElem?_getD, List.getD_eq_getElem?_getD, List.getElem?_map, List.getElem?_eq_getElem hi]
  rfl
theorem QQ.sound {q : QI} (h : QQ q) : q.so := by
  cases h with
  | vsn | csn | enn | eqn | stn => trivial
  | vsc h t => exact ⟨h, t⟩
  | csc h t => exact ⟨h, t⟩
  | enc h c r => exact ⟨⟨h, cloB_ok c⟩, r⟩
  | eqc h r => exact ⟨h, r⟩
  | stc g h r => exact ⟨by rw [g]; exact h, r⟩
  | vr x => exact VEq.refl x
  | er x => exact EEq.same x
  | cr x => exact CEq.refl x
  | tru h => exact VEq.tru h
  | fls h => exact VEq.fls h
  | bool h => exact VEq.bool h
  | int h => exact VEq.int h
  | nil => exact VEq.nil
  | z => exact .c _ _ (.z _ _)
  | li1 => exact VEq.li_1
  | li2 => exact VEq.li_2
  | li3 => exact VEq.li_3
  | li4 => exact VEq.li_4
  | lp1 => exact VEq.lp_1
  | lp2 => exact VEq.lp_2
  | lp3 => exact VEq.lp_3
  | lp4 => exact VEq.lp_4
  | lt1 => exact VEq.lt_1
  | lt2 => exact VEq.lt_2
  | lt3 => exact VEq.lt_3
  | ms h => exact VEq.ms h
  | sll h => exact VEq.sll h
  | aggs h => exact VEq.aggs h
  | boxs h => exact EEq.boxs h
  | app1 h => exact EEq.app1 h
  | app2 h => exact EEq.app2 h
  | app3 h => exact EEq.app3 h
  | cms h => exact CEq.ms h
  | cint h => exact CEq.int h
  | csll h => exact CEq.sll h
  | cnil => exact CEq.nil
  | cz => exact .z _ _
  | ctru h => subst h; exact .tru
  | cfls h => subst h; exact .fls
  | cbool h => subst h; exact .refl _
  | lit h => exact .c _ _ (lit_eq h)
  | clit h => exact lit_eq h
theorem qS {q : QI} (h : QQ q) : q.so := h.sound
theorem qv {x y : V} (h : QI.so (.v x y)) : VEq x y := h
theorem qc {x y : C} (h : QI.so (.c x y)) : CEq x y := h
theorem qe {x y : Ent} (h : QI.so (.e x y)) : EEq x y := h
theorem qvs {x y : List V} (h : QI.so (.vs x y)) : VEqs x y := h
theorem qcs {x y : List C} (h : QI.so (.cs x y)) : CEqs x y := h
theorem qen {x y : List (Nat × V)} (h : QI.so (.en x y)) : envIs x y := h
theorem qeq {π : Nat → Nat} {x y : List (Nat × V)} (h : QI.so (.eq π x y)) : envEq π x y := h
theorem qst {π : Nat → Nat} {x y : Store} (h : QI.so (.st π x y)) : stoEq π x y := h
theorem qis {base : Nat} {st st0 : St} {l : List Nat} (h : QI.so (.eq (nmAt base l) st.env st0.env)) (h2 : QI.so (.st (nmAt base l) st.σ st0.σ)) (nm : (nmOk base st0.nx l && envLtB st0.nx st0.env && stoLtB st0.nx st0.σ) = true := by exact rfl) : Is base st st0 l := ⟨nm, h, h2⟩
section
variable {P : Program} [m : Mix P] {N base : Nat}
theorem rqK {nx nx' : Nat} {rl : List RL} {vs vs0 : List V} {e : Exit} {st : St} (hres : resAll st.env st.σ rl = some vs0) (hv : QI.so (.vs vs0 vs)) (he : e = .normal ∨ e = .ret := by first | exact .inr rfl | exact .inl rfl) (hle : nx ≤ nx' := by exact Nat.le_refl _) (hc : cloL vs := by simp only [cloL, clo, cloC, cloCs, and_self]) : RetQ nx rl vs [] nx' e st :=
  RetQ.plain hle he hres hc hv
theorem rqF {nx nx' : Nat} {rl : List RL} {vs vs0 : List V} {e : Exit} {env : List (Nat × V)} {σ : Store} {nx1 : Nat} (t : Nat) (id : Nat) {n : Nat} {ty : TypeId} {s m : Nat} {f : Nat → List D} {fz : Bool} (hres : resAll env σ rl = some vs0) (h : lk (argEnv 0 vs0) t = .c (.ms id n)) (hg : get σ id = some (.row ty s m f fz))
    (hv : QI.so (.en ((t, .c (.d (.sl s n f))) :: argEnv 0 vs0) (argEnv 0 vs))) (hl : Nat.beq vs0.length vs.length = true := by exact rfl) (hle : Nat.ble nx nx' = true := by exact rfl) (hn : n ≤ m := by exact Nat.le_refl _) (he : e = .normal ∨ e = .ret := by first | exact .inr rfl | exact .inl rfl) : RetQ nx rl vs [] nx' e ⟨env, σ, nx1⟩ :=
  RetQ.of he hres hl ((Mv.freeze t id h hg hn).trans (Mv.plain hle hv))
theorem rqA {nx nx' : Nat} {rl : List RL} {vs vs0 : List V} {e : Exit} {env : List (Nat × V)} {σ : Store} {nx1 : Nat} (t j : Nat) (id : Nat) {cs : List C} {n : Nat} {ty : TypeId} {s m : Nat} {f : Nat → List D} {fz : Bool} (hres : resAll env σ rl = some vs0) (h : lk (argEnv 0 vs0) t = .agg cs) (hj : cs[j]? = some (.ms id n)) (hg : get σ id = some (.row ty s m f fz))
    (hv : QI.so (.en ((t, .agg (putAt cs j (.d (.sl s n f)))) :: argEnv 0 vs0) (argEnv 0 vs))) (hl : Nat.beq vs0.length vs.length = true := by exact rfl) (hle : Nat.ble nx nx' = true := by exact rfl) (hn : n ≤ m := by exact Nat.le_refl _) (he : e = .normal ∨ e = .ret := by first | exact .inr rfl | exact .inl rfl) : RetQ nx rl vs [] nx' e ⟨env, σ, nx1⟩ :=
  RetQ.of he hres hl ((Mv.freezeA t j id h hj hg hn).trans (Mv.plain hle hv))
theorem pi1 {f : FuncId} {lc : LCode} {rl : List RL} {args : List V} {v : V} (hf : FnOk P f N lc rl) (h : wp P N 0 lc ⟨argEnv 0 args, [], 0⟩ (RetQ 0 rl [v] [] 0)) (hN : Nat.ble args.length N = true := by exact rfl) (hc : cloL args := by simp only [cloL, clo, cloC, cloCs, and_self]) : PFD P f args v := PFD.of (vs := [v]) hf hN hc h
theorem pi2 {f : FuncId} {lc : LCode} {rl : List RL} {args : List V} {v v2 : V} (hf : FnOk P f N lc rl) (h : wp P N 0 lc ⟨argEnv 0 args, [], 0⟩ (RetQ 0 rl [v, v2] [] 0)) (hN : Nat.ble args.length N = true := by exact rfl) (hc : cloL args := by simp only [cloL, clo, cloC, cloCs, and_self]) : PFD P f args (.tup [v, v2]) := PFD.of (vs := [v, v2]) hf hN hc h
theorem pi3 {f : FuncId} {lc : LCode} {rl : List RL} {args : List V} {v v2 v3 : V} (hf : FnOk P f N lc rl) (h : wp P N 0 lc ⟨argEnv 0 args, [], 0⟩ (RetQ 0 rl [v, v2, v3] [] 0)) (hN : Nat.ble args.length N = true := by exact rfl) (hc : cloL args := by simp only [cloL, clo, cloC, cloCs, and_self]) : PFD P f args (.tup [v, v2, v3]) := PFD.of (vs := [v, v2, v3]) hf hN hc h
theorem fits {env : List (Nat × V)} {xs : List Operand} {args : List V} (h : Fits env xs args := by first | exact Fits.eq rfl | exact Fits.veq (qvs (by (repeat' first | exact rfl | (refine qS ?_; constructor)) <;> fail))) : Fits env xs args := h
variable {dst : Option Nat} {fop : Operand} {xs : List Operand} {g : Option (Nat × Bool)} {rest : List LIns} {env : List (Nat × V)} {σ : Store} {nx : Nat} {K : St → Prop} {f : FuncId} {args : List V} {v : V} {p : Prop} {M : List Nat} {acc : List (Bool × List Nat)}
theorem A1.oK (hc : PFD P f args v) (hf : evo env fop = .c (.fn f [])) (hg : guardOf env g = .run) (ha : (xs.map (evo env)).map normA = args) (h : putK dst v env fun env' => wpOps P N base rest env' σ nx none K) : OpsL P N base (⟨dst, .call fop xs, g⟩ :: rest) ⟨env, σ, nx⟩ K := Ops.pc hf (Fits.eq ha) hc hg h
theorem A2.oK (hc : p → PFD P f args v) (hf : evo env fop = .c (.fn f [])) (hg : guardOf env g = .run) (ha : (xs.map (evo env)).map normA = args) (h : putK dst v env fun env' => wpOps P N base rest env' σ nx none K) (hp : p := by exact ob) : OpsL P N base (⟨dst, .call fop xs, g⟩ :: rest) ⟨env, σ, nx⟩ K := Ops.pc hf (Fits.eq ha) (hc hp) hg h
theorem A3.oK (hc : PFD P f args v) (hf : evo env fop = .c (.fn f [])) (hg : guardOf env g = .run) (ha : (xs.map (evo env)).map normA = args) (h : putK dst v env fun env' => wpD P N base M rest env' σ nx none ((false, []) :: acc) K) : OpsDL P N base M (⟨dst, .call fop xs, g⟩ :: rest) ⟨env, σ, nx⟩ acc K := OpsD.pc hf (Fits.eq ha) hc hg h
theorem A4.oK (hc : p → PFD P f args v) (hf : evo env fop = .c (.fn f [])) (hg : guardOf env g = .run) (ha : (xs.map (evo env)).map normA = args) (h : putK dst v env fun env' => wpD P N base M rest env' σ nx none ((false, []) :: acc) K) (hp : p := by exact ob) : OpsDL P N base M (⟨dst, .call fop xs, g⟩ :: rest) ⟨env, σ, nx⟩ acc K := OpsD.pc hf (Fits.eq ha) (hc hp) hg h
theorem A1.pK (hc : PFD P f args v) (hf : evo env fop = .c (.fn f [])) (hg : guardOf env g = .run) (h : putK dst v env fun env' => wpOps P N base rest env' σ nx none K) (ha : Fits env xs args := by exact fits) : OpsL P N base (⟨dst, .call fop xs, g⟩ :: rest) ⟨env, σ, nx⟩ K := Ops.pc hf ha hc hg h
theorem A2.pK (hc : p → PFD P f args v) (hf : evo env fop = .c (.fn f [])) (hg : guardOf env g = .run) (h : putK dst v env fun env' => wpOps P N base rest env' σ nx none K) (ha : Fits env xs args := by exact fits) (hp : p := by exact ob) : OpsL P N base (⟨dst, .call fop xs, g⟩ :: rest) ⟨env, σ, nx⟩ K := Ops.pc hf ha (hc hp) hg h
theorem A3.pK (hc : PFD P f args v) (hf : evo env fop = .c (.fn f [])) (hg : guardOf env g = .run) (h : putK dst v env fun env' => wpD P N base M rest env' σ nx none ((false, []) :: acc) K) (ha : Fits env xs args := by exact fits) : OpsDL P N base M (⟨dst, .call fop xs, g⟩ :: rest) ⟨env, σ, nx⟩ acc K := OpsD.pc hf ha hc hg h
theorem A4.pK (hc : p → PFD P f args v) (hf : evo env fop = .c (.fn f [])) (hg : guardOf env g = .run) (h : putK dst v env fun env' => wpD P N base M rest env' σ nx none ((false, []) :: acc) K) (ha : Fits env xs args := by exact fits) (hp : p := by exact ob) : OpsDL P N base M (⟨dst, .call fop xs, g⟩ :: rest) ⟨env, σ, nx⟩ acc K := OpsD.pc hf ha (hc hp) hg h
end
end Go.Pw
