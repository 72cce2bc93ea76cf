/- Steps toward the row of this claim: part 1 of 4. Proved as named below, on no condition but those that each theorem states. -/
import Derived.WalkKit
import Derived.RangeFuncLeaves
import Derived.OrdersIn
import Derived.Maps.AppendAt
namespace Go.Pw
open Go Go.RowKit
/-- Data that never turns: an exact one-cell value, or a slice: element size, length, and each element's cells. -/
inductive D where
  | v (x : Value)
  | sl (s n : Nat) (f : Nat → List D)
/-- A cell: data; a known bool; a pointer to cells that never turn; a closure over boxes; a pointer into a box; a pointer into an owned row; an owned slice; the yield of a loop; a slice without room. -/
inductive C where
  | d (x : D)
  | tru
  | fls
  | rp (row : List D)
  | fn (f : FuncId) (ids : List Nat)
  | bp (id off : Nat)
  | ep (id s i j : Nat)
  | ms (id n : Nat)
  | yd (id : Nat)
  | z
inductive V where
  | c (x : C)
  | agg (cs : List C)
  | tup (vs : List V)
  | unk
/-- A box; a row of elements; the record of a range over a function: the frame's slots, the state, the jump that waits. -/
inductive Ent where
  | box (cs : List C)
  | row (e : TypeId) (s n : Nat) (f : Nat → List D) (fz : Bool)
  | lp (env : List (Nat × V)) (st : LoopState) (j : Option Code) (R : Loop → Prop)
abbrev Store := List (Nat × Ent)
structure St where
  env : List (Nat × V)
  σ : Store
  nx : Nat
def lk : List (Nat × V) → Nat → V
  | [], _ => .unk
  | (a, v) :: e, t => match Nat.beq a t with
    | true => v
    | false => lk e t
def get : Store → Nat → Option Ent
  | [], _ => none
  | (a, v) :: e, t => match Nat.beq a t with
    | true => some v
    | false => get e t
def set : Store → Nat → Ent → Store
  | [], _, _ => []
  | (a, v) :: e, t, x => match Nat.beq a t with
    | true => (a, x) :: e
    | false => (a, v) :: set e t x
def del : Store → Nat → Store
  | [], _ => []
  | (a, v) :: e, t => match Nat.beq a t with
    | true => del e t
    | false => (a, v) :: del e t
theorem get_set_same {σ : Store} {id : Nat} {x y : Ent} (h : get σ id = some y) : get (set σ id x) id = some x := by
  induction σ with
  | nil => simp [get] at h
  | cons p e ih =>
    obtain ⟨a, v⟩ := p
    simp only [get, set] at h ⊢
    generalize hb : Nat.beq a id = b at h ⊢
    cases b
    · simp only [get, hb]; exact ih h
    · simp only [get, hb]
theorem get_set_other {σ : Store} {id id' : Nat} {x : Ent} (h : id' ≠ id) : get (set σ id x) id' = get σ id' := by
  induction σ with
  | nil => rfl
  | cons p e ih =>
    obtain ⟨a, v⟩ := p
    simp only [get, set]
    cases hb : Nat.beq a id <;> simp only [get]
    · rw [ih]
    · have ha : a = id := Nat.eq_of_beq_eq_true hb
      have : Nat.beq a id' = false := by
        rw [ha]; cases hq : Nat.beq id id'
        · rfl
        · exact absurd (Nat.eq_of_beq_eq_true hq).symm h
      simp [this]
theorem get_del_same {σ : Store} {id : Nat} : get (del σ id) id = none := by
  induction σ with
  | nil => rfl
  | cons p e ih =>
    obtain ⟨a, v⟩ := p
    simp only [del]
    cases hb : Nat.beq a id <;> simp [get, hb, ih]
theorem get_del_other {σ : Store} {id id' : Nat} (h : id' ≠ id) : get (del σ id) id' = get σ id' := by
  induction σ with
  | nil => rfl
  | cons p e ih =>
    obtain ⟨a, v⟩ := p
    simp only [get, del]
    cases hb : Nat.beq a id <;> simp only [get]
    · rw [ih]
    · have ha : a = id := Nat.eq_of_beq_eq_true hb
      have : Nat.beq a id' = false := by
        rw [ha]; cases hq : Nat.beq id id'
        · rfl
        · exact absurd (Nat.eq_of_beq_eq_true hq).symm h
      simp [this, ih]
theorem get_cons_same {σ : Store} {id : Nat} {x : Ent} : get ((id, x) :: σ) id = some x := by simp [get, Nat.beq_refl]
theorem get_cons_other {σ : Store} {id id' : Nat} {x : Ent} (h : id' ≠ id) : get ((id, x) :: σ) id' = get σ id' := by
  have : Nat.beq id id' = false := by
    cases hq : Nat.beq id id'
    · rfl
    · exact absurd (Nat.eq_of_beq_eq_true hq).symm h
  simp [get, this]
/-- What the abstract names stand for: the blocks that never turn; the block and the capacity (none: a nil slice) of each name that is in use. -/
structure Cx where
  I : Nat → Prop
  ρ : Nat → Option Nat
  κ : Nat → Option Nat
/-- A value that fills one cell. -/
def one : Value → Bool
  | .agg _ | .tuple _ => false
  | _ => true
inductive RepD (I : Nat → Prop) (w : World) : D → Value → Prop
  | v (x : Value) (h : one x = true) : RepD I w (.v x) x
  | slE (s : Nat) (f : Nat → List D) (A : Option Addr) (c : Nat) : RepD I w (.sl s 0 f) (.slice A 0 c)
  | sl (s n : Nat) (f : Nat → List D) (ad : Addr) (c : Nat) (U : Nat → Nat → Value) (hn : n ≤ c) (hI : I ad.block) (hs : ∀ i, i < n → (f i).length = s)
      (hc : ∀ i j d, i < n → (f i)[j]? = some d → w.cell? (ad.add (i * s + j)) = some (U i j))
      (hr : ∀ i j d, i < n → (f i)[j]? = some d → RepD I w d (U i j)) : RepD I w (.sl s n f) (.slice (some ad) n c)
def ptr (b off : Nat) : Value := .pointer (some ⟨b, off, none⟩)
def RepC (Γ : Cx) (w : World) : C → Value → Prop
  | .d x, u => RepD Γ.I w x u
  | .tru, u => u = .bool true
  | .fls, u => u = .bool false
  | .rp row, u => ∃ ad, u = .pointer (some ad) ∧ Γ.I ad.block ∧ ∀ j d, row[j]? = some d → ∃ x, w.cell? (ad.add j) = some x ∧ RepD Γ.I w d x
  | .fn f ids, u => ∃ bs : List Nat, bs.length = ids.length ∧ (∀ (j i : Nat), ids[j]? = some i → ∃ b, Γ.ρ i = some b ∧ bs[j]? = some b) ∧ u = .func (.func f) #[] (bs.map fun b => ptr b 0).toArray
  | .bp id off, u => ∃ b, Γ.ρ id = some b ∧ u = ptr b off
  | .ep id s i j, u => ∃ b, Γ.ρ id = some b ∧ u = ptr b (i * s + j)
  | .yd id, u => ∃ b, Γ.ρ id = some b ∧ u = .func (.yield b) #[] #[]
  | .ms id n, u => ∃ b, Γ.ρ id = some b ∧ ((n = 0 ∧ Γ.κ id = none ∧ u = .slice none 0 0) ∨ (∃ c, Γ.κ id = some c ∧ u = .slice (some ⟨b, 0, none⟩) n c))
  | .z, u => ∃ A, u = .slice A 0 0
inductive RepV (Γ : Cx) (w : World) : V → Value → Prop
  | c (x : C) (u : Value) (h : RepC Γ w x u) : RepV Γ w (.c x) u
  | agg (cs : List C) (us : Array Value) (hl : us.size = cs.length) (h : ∀ (i : Nat) c u, cs[i]? = some c → us[i]? = some u → RepC Γ w c u) : RepV Γ w (.agg cs) (.agg us)
  | tup (vs : List V) (us : Array Value) (hl : us.size = vs.length) (h : ∀ (i : Nat) v u, vs[i]? = some v → us[i]? = some u → RepV Γ w v u) : RepV Γ w (.tup vs) (.tuple us)
  | unk (u : Value) : RepV Γ w .unk u
/-- Name id stands for a block that may still turn. -/
def LiveId (Γ : Cx) (σ : Store) (id : Nat) : Prop :=
  (∃ cs, get σ id = some (.box cs)) ∨ (∃ e s n f, get σ id = some (.row e s n f false) ∧ ∃ c, Γ.κ id = some c) ∨ (∃ env st j R, get σ id = some (.lp env st j R))
def Live (Γ : Cx) (σ : Store) (k : Nat) : Prop := ∃ id, LiveId Γ σ id ∧ Γ.ρ id = some k
def EntOk (Γ : Cx) (w : World) (id b : Nat) : Ent → Prop
  | .box cs => ¬ Γ.I b ∧ ∃ xs t, w.heap[b]? = some (.cells xs t (0, 0)) ∧ xs.size = cs.length ∧ ∀ (i : Nat) (c : C), cs[i]? = some c → ∃ x, xs[i]? = some x ∧ RepC Γ w c x
  | .row e s n f fz => (Γ.κ id = none ∧ n = 0) ∨ (∃ c, Γ.κ id = some c ∧ (fz = true → Γ.I b) ∧ (fz = false → ¬ Γ.I b) ∧ n ≤ c ∧ c ≤ maxLen ∧ (∀ i, i < n → (f i).length = s) ∧
      ∃ xs, w.heap[b]? = some (.cells xs e (0, 0)) ∧ xs.size = c * s ∧ ∀ (i j : Nat) (d : D), i < n → (f i)[j]? = some d → ∃ x, xs[i * s + j]? = some x ∧ RepD Γ.I w d x)
  | .lp env st j R => ¬ Γ.I b ∧ ∃ r : Loop, w.heap[b]? = some (.loop r) ∧ r.state = st ∧ r.pending = j ∧ R { r with state := .ready, pending := none } ∧ ∀ t, RepV Γ w (lk env t) (r.tmps.getD t undef)
structure StoreOk (Γ : Cx) (w : World) (σ : Store) : Prop where
  im : ∀ k, Γ.I k → k < w.heap.size
  ok : ∀ id e, get σ id = some e → ∃ b, Γ.ρ id = some b ∧ EntOk Γ w id b e
  inj : ∀ i j k, LiveId Γ σ i → LiveId Γ σ j → Γ.ρ i = some k → Γ.ρ j = some k → i = j
/-- What a run may turn: live blocks and new ones alone. Names below 'base' keep their meaning. -/
structure Ext (base : Nat) (Γ : Cx) (w : World) (σ : Store) (Γ' : Cx) (w' : World) (σ' : Store) : Prop where
  os : w'.os = w.os
  tape : w'.tape = w.tape
  output : w'.output = w.output
  size : w.heap.size ≤ w'.heap.size
  im : ∀ k, Γ.I k → Γ'.I k
  new : ∀ k, Γ'.I k → Γ.I k ∨ w.heap.size ≤ k ∨ Live Γ σ k
  ρ : ∀ id, id < base → Γ'.ρ id = Γ.ρ id
  κ : ∀ id, id < base → Γ'.κ id = Γ.κ id
  keep : ∀ k, k < w.heap.size → ¬ Live Γ σ k → w'.heap[k]? = w.heap[k]?
  live : ∀ k, Live Γ' σ' k → Live Γ σ k ∨ w.heap.size ≤ k
theorem Ext.refl (base : Nat) (Γ : Cx) (w : World) (σ : Store) : Ext base Γ w σ Γ w σ :=
  ⟨rfl, rfl, rfl, Nat.le_refl _, fun _ h => h, fun _ h => .inl h, fun _ _ => rfl, fun _ _ => rfl, fun _ _ _ => rfl, fun _ h => .inl h⟩
theorem Ext.trans {base : Nat} {Γ Γ' Γ'' : Cx} {w w' w'' : World} {σ σ' σ'' : Store} (h : Ext base Γ w σ Γ' w' σ') (k : Ext base Γ' w' σ' Γ'' w'' σ'') :
    Ext base Γ w σ Γ'' w'' σ'' where
  os := k.os.trans h.os
  tape := k.tape.trans h.tape
  output := k.output.trans h.output
  size := Nat.le_trans h.size k.size
  im := fun b hb => k.im b (h.im b hb)
  new := fun b hb => by
    rcases k.new b hb with h1 | h1 | h1
    · exact h.new b h1
    · exact .inr (.inl (Nat.le_trans h.size h1))
    · rcases h.live b h1 with h2 | h2
      · exact .inr (.inr h2)
      · exact .inr (.inl h2)
  ρ := fun id hid => (k.ρ id hid).trans (h.ρ id hid)
  κ := fun id hid => (k.κ id hid).trans (h.κ id hid)
  keep := fun b hb hn => by
    refine (k.keep b (Nat.lt_of_lt_of_le hb h.size) (fun hl => ?_)).trans (h.keep b hb hn)
    rcases h.live b hl with h1 | h1
    · exact hn h1
    · omega
  live := fun b hb => by
    rcases k.live b hb with h1 | h1
    · exact h.live b h1
    · exact .inr (Nat.le_trans h.size h1)
theorem Ext.mono {base base' : Nat} {Γ Γ' : Cx} {w w' : World} {σ σ' : Store} (h : Ext base Γ w σ Γ' w' σ') (hb : base' ≤ base) : Ext base' Γ w σ Γ' w' σ' :=
  ⟨h.os, h.tape, h.output, h.size, h.im, h.new, fun id hid => h.ρ id (by omega), fun id hid => h.κ id (by omega), h.keep, h.live⟩
/-- The blocks that never turn lie as they lay. -/
def Same (I : Nat → Prop) (w w' : World) : Prop := ∀ k, I k → w'.heap[k]? = w.heap[k]?
theorem cell_of_heap {w w' : World} {a : Addr} (h : w'.heap[a.block]? = w.heap[a.block]?) : w'.cell? a = w.cell? a := by
  simp only [World.cell?, h]
theorem block_add (a : Addr) (n : Nat) : (a.add n).block = a.block := by unfold Addr.add; split <;> rfl
theorem add_add (a : Addr) (i j : Nat) : (a.add i).add j = a.add (i + j) := by
  unfold Addr.add
  by_cases hi : i = 0 <;> by_cases hj : j = 0 <;> simp [hi, hj, Nat.add_assoc]
theorem RepD.mono {I I' : Nat → Prop} {w w' : World} {d : D} {u : Value} (h : RepD I w d u) (hI : ∀ k, I k → I' k) (hs : Same I w w') : RepD I' w' d u := by
  induction h with
  | v x h => exact .v x h
  | slE s f A c => exact .slE s f A c
  | sl s n f ad c U hn hb hl hc _ ih =>
    refine .sl s n f ad c U hn (hI _ hb) hl (fun i j d hi hd => ?_) ih
    exact (cell_of_heap (by rw [block_add]; exact hs _ hb)).trans (hc i j d hi hd)
/-- Γ' says of the names that Γ has in use what Γ said. -/
structure CxLe (Γ Γ' : Cx) : Prop where
  im : ∀ k, Γ.I k → Γ'.I k
  ρ : ∀ id b, Γ.ρ id = some b → Γ'.ρ id = some b
  κ : ∀ id b, Γ.ρ id = some b → Γ'.κ id = Γ.κ id
theorem CxLe.refl (Γ : Cx) : CxLe Γ Γ := ⟨fun _ h => h, fun _ _ h => h, fun _ _ _ => rfl⟩
theorem CxLe.trans {Γ Γ' Γ'' : Cx} (h : CxLe Γ Γ') (k : CxLe Γ' Γ'') : CxLe Γ Γ'' :=
  ⟨fun b hb => k.im b (h.im b hb), fun id b hb => k.ρ id b (h.ρ id b hb), fun id b hb => (k.κ id b (h.ρ id b hb)).trans (h.κ id b hb)⟩
theorem RepC.mono {Γ Γ' : Cx} {w w' : World} {c : C} {u : Value} (h : RepC Γ w c u) (hle : CxLe Γ Γ') (hs : Same Γ.I w w') : RepC Γ' w' c u := by
  cases c with
  | d x => exact RepD.mono h hle.im hs
  | tru => exact h
  | fls => exact h
  | z => exact h
  | rp row =>
    obtain ⟨ad, hu, hI, hr⟩ := h
    refine ⟨ad, hu, hle.im _ hI, fun j d hd => ?_⟩
    obtain ⟨x, hx, hd'⟩ := hr j d hd
    exact ⟨x, (cell_of_heap (by rw [block_add]; exact hs _ hI)).trans hx, hd'.mono hle.im hs⟩
  | fn f ids =>
    obtain ⟨bs, hl, hb, hu⟩ := h
    refine ⟨bs, hl, fun j i hj => ?_, hu⟩
    obtain ⟨b, h1, h2⟩ := hb j i hj
    exact ⟨b, hle.ρ i b h1, h2⟩
  | bp id off => obtain ⟨b, hb, hu⟩ := h; exact ⟨b, hle.ρ id b hb, hu⟩
  | yd id => obtain ⟨b, hb, hu⟩ := h; exact ⟨b, hle.ρ id b hb, hu⟩
  | ep id s i j => obtain ⟨b, hb, hu⟩ := h; exact ⟨b, hle.ρ id b hb, hu⟩
  | ms id n =>
    obtain ⟨b, hb, h⟩ := h
    refine ⟨b, hle.ρ id b hb, ?_⟩
    rw [hle.κ id b hb]
    exact h
theorem RepV.mono {Γ Γ' : Cx} {w w' : World} {v : V} {u : Value} (h : RepV Γ w v u) (hle : CxLe Γ Γ') (hs : Same Γ.I w w') : RepV Γ' w' v u := by
  induction h with
  | c x u h => exact .c x u (h.mono hle hs)
  | agg cs us hl h => exact .agg cs us hl (fun i c u hc hu => (h i c u hc hu).mono hle hs)
  | tup vs us hl _ ih => exact .tup vs us hl ih
  | unk u => exact .unk u
/-- The entry has a block of its own. -/
def HasB (Γ : Cx) (id : Nat) : Ent → Prop
  | .box _ => True
  | .row .. => ∃ c, Γ.κ id = some c
  | .lp .. => True
theorem EntOk.mono {Γ Γ' : Cx} {w w' : World} {id b : Nat} {e : Ent} (h : EntOk Γ w id b e) (hid : Γ.ρ id = some b) (hle : CxLe Γ Γ') (hs : Same Γ.I w w')
    (hb : HasB Γ id e → w'.heap[b]? = w.heap[b]?) (hI : HasB Γ id e → ¬ Γ.I b → ¬ Γ'.I b) : EntOk Γ' w' id b e := by
  cases e with
  | box cs =>
    obtain ⟨h1, xs, t, h2, h3, h4⟩ := h
    refine ⟨hI trivial h1, xs, t, (hb trivial).trans h2, h3, fun i c hc => ?_⟩
    obtain ⟨x, hx, hr⟩ := h4 i c hc
    exact ⟨x, hx, hr.mono hle hs⟩
  | row e s n f fz =>
    rcases h with ⟨h1, h2⟩ | ⟨c, h1, h2, h3, h4, h5, h6, xs, h7, h8, h9⟩
    · exact .inl ⟨by rw [hle.κ id b hid]; exact h1, h2⟩
    · refine .inr ⟨c, by rw [hle.κ id b hid]; exact h1, fun hf => hle.im _ (h2 hf), fun hf => hI ⟨c, h1⟩ (h3 hf), h4, h5, h6, xs, (hb ⟨c, h1⟩).trans h7, h8, fun i j d hi hd => ?_⟩
      obtain ⟨x, hx, hr⟩ := h9 i j d hi hd
      exact ⟨x, hx, hr.mono hle.im hs⟩
  | lp env st j R =>
    obtain ⟨h1, r, h2, h3, h4, h5, h6⟩ := h
    exact ⟨hI trivial h1, r, (hb trivial).trans h2, h3, h4, h5, fun t => (h6 t).mono hle hs⟩
theorem StoreOk.not_live {Γ : Cx} {w : World} {σ : Store} (h : StoreOk Γ w σ) {k : Nat} (hk : Γ.I k) : ¬ Live Γ σ k := by
  rintro ⟨id, hl, hid⟩
  rcases hl with ⟨cs, hg⟩ | ⟨e, s, n, f, hg, c, hκ⟩ | ⟨env, st, j, R, hg⟩
  · obtain ⟨b, hb, he⟩ := h.ok id _ hg
    rw [hid] at hb; cases hb
    exact he.1 hk
  · obtain ⟨b, hb, he⟩ := h.ok id _ hg
    rw [hid] at hb; cases hb
    rcases he with ⟨h1, _⟩ | ⟨_, _, _, h1, _⟩
    · rw [hκ] at h1; cases h1
    · exact h1 rfl hk
  · obtain ⟨b, hb, he⟩ := h.ok id _ hg
    rw [hid] at hb; cases hb
    exact he.1 hk
theorem Ext.same {base : Nat} {Γ Γ' : Cx} {w w' : World} {σ σ' : Store} (h : Ext base Γ w σ Γ' w' σ') (hok : StoreOk Γ w σ) : Same Γ.I w w' :=
  fun k hk => h.keep k (hok.im k hk) (hok.not_live hk)
end Go.Pw

namespace Go.Pw
open Go Go.RowKit
def Cx.upd (Γ : Cx) (id b : Nat) (κ : Option Nat) : Cx :=
  { I := Γ.I, ρ := fun i => if i = id then some b else Γ.ρ i, κ := fun i => if i = id then κ else Γ.κ i }
def Cx.also (Γ : Cx) (p : Nat → Prop) : Cx := { Γ with I := fun k => Γ.I k ∨ p k }
theorem CxLe.upd (Γ : Cx) {id : Nat} (b : Nat) (κ : Option Nat) (hid : Γ.ρ id = none) : CxLe Γ (Γ.upd id b κ) := by
  have key : ∀ i b, Γ.ρ i = some b → i ≠ id := fun i b h e => by subst e; rw [hid] at h; cases h
  exact ⟨fun _ h => h, fun i b h => by simp [Cx.upd, key i b h, h], fun i b h => by simp [Cx.upd, key i b h]⟩
theorem CxLe.also (Γ : Cx) (p : Nat → Prop) : CxLe Γ (Γ.also p) := ⟨fun _ h => .inl h, fun _ _ h => h, fun _ _ _ => rfl⟩
/-- The entry's block may still turn. -/
def LiveE (Γ : Cx) (id : Nat) : Ent → Prop
  | .box _ => True
  | .row _ _ _ _ fz => fz = false ∧ ∃ c, Γ.κ id = some c
  | .lp .. => True
theorem liveId_iff {Γ : Cx} {σ : Store} {id : Nat} : LiveId Γ σ id ↔ ∃ e, get σ id = some e ∧ LiveE Γ id e := by
  constructor
  · rintro (⟨cs, h⟩ | ⟨e, s, n, f, h, hc⟩ | ⟨env, st, j, R, h⟩)
    · exact ⟨_, h, trivial⟩
    · exact ⟨_, h, rfl, hc⟩
    · exact ⟨_, h, trivial⟩
  · rintro ⟨e, h, hl⟩
    cases e with
    | box cs => exact .inl ⟨cs, h⟩
    | row e s n f fz => obtain ⟨rfl, hc⟩ := hl; exact .inr (.inl ⟨e, s, n, f, h, hc⟩)
    | lp env st j R => exact .inr (.inr ⟨env, st, j, R, h⟩)
theorem liveE_mono {Γ Γ' : Cx} {id b : Nat} {e : Ent} (hle : CxLe Γ Γ') (hid : Γ.ρ id = some b) : LiveE Γ' id e ↔ LiveE Γ id e := by
  cases e with
  | box cs => exact Iff.rfl
  | row e s n f fz => simp only [LiveE, hle.κ id b hid]
  | lp env st j R => exact Iff.rfl
theorem StoreOk.liveId {Γ Γ' : Cx} {w : World} {σ : Store} (h : StoreOk Γ w σ) (hle : CxLe Γ Γ') (id : Nat) : LiveId Γ' σ id ↔ LiveId Γ σ id := by
  rw [liveId_iff, liveId_iff]
  constructor
  · rintro ⟨e, hg, hl⟩; obtain ⟨b, hb, _⟩ := h.ok id e hg; exact ⟨e, hg, (liveE_mono hle hb).1 hl⟩
  · rintro ⟨e, hg, hl⟩; obtain ⟨b, hb, _⟩ := h.ok id e hg; exact ⟨e, hg, (liveE_mono hle hb).2 hl⟩
theorem StoreOk.live {Γ Γ' : Cx} {w : World} {σ : Store} (h : StoreOk Γ w σ) (hle : CxLe Γ Γ') (k : Nat) : Live Γ' σ k ↔ Live Γ σ k := by
  constructor
  · rintro ⟨id, hl, hk⟩
    have hl' := (h.liveId hle id).1 hl
    obtain ⟨e, hg, _⟩ := liveId_iff.1 hl'
    obtain ⟨b, hb, _⟩ := h.ok id e hg
    have := hle.ρ id b hb
    rw [hk] at this; cases this
    exact ⟨id, hl', hb⟩
  · rintro ⟨id, hl, hk⟩
    exact ⟨id, (h.liveId hle id).2 hl, hle.ρ id k hk⟩
theorem EntOk.block {Γ : Cx} {w : World} {id b : Nat} {e : Ent} (h : EntOk Γ w id b e) (hb : HasB Γ id e) : b < w.heap.size := by
  cases e with
  | box cs => obtain ⟨_, xs, t, hh, _⟩ := h; exact (Array.getElem?_eq_some_iff.1 hh).1
  | row e s n f fz =>
    obtain ⟨c, hc⟩ := hb
    rcases h with ⟨h1, _⟩ | ⟨_, _, _, _, _, _, _, xs, hh, _⟩
    · rw [hc] at h1; cases h1
    · exact (Array.getElem?_eq_some_iff.1 hh).1
  | lp env st j R => obtain ⟨_, r, hh, _⟩ := h; exact (Array.getElem?_eq_some_iff.1 hh).1
theorem LiveE.hasB {Γ : Cx} {id : Nat} {e : Ent} (h : LiveE Γ id e) : HasB Γ id e := by
  cases e with
  | box cs => trivial
  | row e s n f fz => exact h.2
  | lp env st j R => trivial
theorem StoreOk.live_lt {Γ : Cx} {w : World} {σ : Store} (h : StoreOk Γ w σ) {k : Nat} (hl : Live Γ σ k) : k < w.heap.size := by
  obtain ⟨id, hl, hk⟩ := hl
  obtain ⟨e, hg, hle⟩ := liveId_iff.1 hl
  obtain ⟨b, hb, he⟩ := h.ok id e hg
  rw [hk] at hb; cases hb
  exact he.block hle.hasB
/-- An entry with a block: the block is live, or it never turns. -/
theorem StoreOk.or_live {Γ : Cx} {w : World} {σ : Store} (h : StoreOk Γ w σ) {id b : Nat} {e : Ent} (hg : get σ id = some e) (hb : Γ.ρ id = some b) (hB : HasB Γ id e) : Γ.I b ∨ LiveId Γ σ id := by
  cases e with
  | box cs => exact .inr (.inl ⟨cs, hg⟩)
  | row e s n f fz =>
    obtain ⟨c, hc⟩ := hB
    cases fz with
    | false => exact .inr (.inr (.inl ⟨e, s, n, f, hg, c, hc⟩))
    | true =>
      obtain ⟨b', hb', he⟩ := h.ok id _ hg
      rw [hb] at hb'; cases hb'
      rcases he with ⟨h1, _⟩ | ⟨_, _, h2, _⟩
      · rw [hc] at h1; cases h1
      · exact .inl (h2 rfl)
  | lp env st j R => exact .inr (.inr (.inr ⟨env, st, j, R, hg⟩))
theorem StoreOk.keep {Γ Γ' : Cx} {w w' : World} {σ : Store} (h : StoreOk Γ w σ) (hle : CxLe Γ Γ') (him : ∀ k, Γ'.I k → k < w'.heap.size) (hs : Same Γ.I w w')
    (hl : ∀ k, Live Γ σ k → w'.heap[k]? = w.heap[k]?) (hI : ∀ k, Live Γ σ k → ¬ Γ'.I k) : StoreOk Γ' w' σ where
  im := him
  ok := fun id e hg => by
    obtain ⟨b, hb, hok⟩ := h.ok id e hg
    refine ⟨b, hle.ρ id b hb, hok.mono hb hle hs (fun hB => ?_) (fun hB hn => ?_)⟩
    · rcases h.or_live hg hb hB with h1 | h1
      · exact hs _ h1
      · exact hl _ ⟨id, h1, hb⟩
    · rcases h.or_live hg hb hB with h1 | h1
      · exact absurd h1 hn
      · exact hI _ ⟨id, h1, hb⟩
  inj := fun i j k hi hj hki hkj => by
    have hi' := (h.liveId hle i).1 hi
    have hj' := (h.liveId hle j).1 hj
    obtain ⟨ei, gi, _⟩ := liveId_iff.1 hi'
    obtain ⟨ej, gj, _⟩ := liveId_iff.1 hj'
    obtain ⟨bi, hbi, _⟩ := h.ok i ei gi
    obtain ⟨bj, hbj, _⟩ := h.ok j ej gj
    have e1 := hle.ρ i bi hbi
    have e2 := hle.ρ j bj hbj
    rw [hki] at e1; rw [hkj] at e2; cases e1; cases e2
    exact h.inj i j k hi' hj' hbi hbj
theorem StoreOk.cons {Γ : Cx} {w : World} {σ : Store} {id b : Nat} {e : Ent} (h : StoreOk Γ w σ) (hid : Γ.ρ id = some b) (he : EntOk Γ w id b e)
    (hnl : LiveE Γ id e → ∀ j, j ≠ id → LiveId Γ σ j → Γ.ρ j ≠ some b) : StoreOk Γ w ((id, e) :: σ) where
  im := h.im
  ok := fun j e' hg => by
    by_cases hj : j = id
    · subst hj; rw [get_cons_same] at hg; cases hg; exact ⟨b, hid, he⟩
    · rw [get_cons_other hj] at hg; exact h.ok j e' hg
  inj := fun i j k hi hj hki hkj => by
    rw [liveId_iff] at hi hj
    obtain ⟨ei, gi, li⟩ := hi
    obtain ⟨ej, gj, lj⟩ := hj
    by_cases h1 : i = id <;> by_cases h2 : j = id
    · rw [h1, h2]
    · subst h1; rw [get_cons_same] at gi; cases gi; rw [get_cons_other h2] at gj
      rw [hid] at hki; cases hki
      exact absurd hkj (hnl li j h2 (liveId_iff.2 ⟨ej, gj, lj⟩))
    · subst h2; rw [get_cons_same] at gj; cases gj; rw [get_cons_other h1] at gi
      rw [hid] at hkj; cases hkj
      exact absurd hki (hnl lj i h1 (liveId_iff.2 ⟨ei, gi, li⟩))
    · rw [get_cons_other h1] at gi; rw [get_cons_other h2] at gj
      exact h.inj i j k (liveId_iff.2 ⟨ei, gi, li⟩) (liveId_iff.2 ⟨ej, gj, lj⟩) hki hkj
theorem StoreOk.del {Γ : Cx} {w : World} {σ : Store} (h : StoreOk Γ w σ) (id : Nat) : StoreOk Γ w (del σ id) := by
  have key : ∀ j e, get (Pw.del σ id) j = some e → j ≠ id ∧ get σ j = some e := fun j e hg => by
    by_cases hj : j = id
    · subst hj; rw [get_del_same] at hg; cases hg
    · exact ⟨hj, by rw [get_del_other hj] at hg; exact hg⟩
  have kl : ∀ j, LiveId Γ (Pw.del σ id) j → LiveId Γ σ j := fun j hl => by
    obtain ⟨e, hg, hle⟩ := liveId_iff.1 hl
    exact liveId_iff.2 ⟨e, (key j e hg).2, hle⟩
  exact ⟨h.im, fun j e hg => h.ok j e (key j e hg).2, fun i j k hi hj => h.inj i j k (kl i hi) (kl j hj)⟩
theorem liveId_del {Γ : Cx} {σ : Store} {id j : Nat} (h : LiveId Γ (del σ id) j) : j ≠ id ∧ LiveId Γ σ j := by
  obtain ⟨e, hg, hle⟩ := liveId_iff.1 h
  have hj : j ≠ id := fun e => by subst e; rw [get_del_same] at hg; cases hg
  rw [get_del_other hj] at hg
  exact ⟨hj, liveId_iff.2 ⟨e, hg, hle⟩⟩
theorem live_del {Γ : Cx} {σ : Store} {id k : Nat} (h : Live Γ (del σ id) k) : Live Γ σ k := by
  obtain ⟨j, hl, hk⟩ := h
  exact ⟨j, (liveId_del hl).2, hk⟩
/-- A live entry's block is written. -/
theorem StoreOk.modify {Γ : Cx} {w w' : World} {σ : Store} {id b : Nat} {e e' : Ent} (h : StoreOk Γ w σ) (hg : get σ id = some e) (hb : Γ.ρ id = some b) (hl : LiveE Γ id e)
    (hsz : w.heap.size ≤ w'.heap.size) (hk : ∀ k, k < w.heap.size → k ≠ b → w'.heap[k]? = w.heap[k]?) (he : EntOk Γ w' id b e') : StoreOk Γ w' (set σ id e') := by
  have hli : LiveId Γ σ id := liveId_iff.2 ⟨e, hg, hl⟩
  have hnI : ¬ Γ.I b := fun hI => h.not_live hI ⟨id, hli, hb⟩
  have hs : Same Γ.I w w' := fun k hI => hk k (h.im k hI) (fun e => hnI (e ▸ hI))
  have key : ∀ j x, j ≠ id → get (set σ id e') j = some x → get σ j = some x := fun j x hj hx => by rw [get_set_other hj] at hx; exact hx
  have kl : ∀ j, LiveId Γ (set σ id e') j → LiveId Γ σ j := fun j hlj => by
    by_cases hj : j = id
    · exact hj ▸ hli
    · obtain ⟨x, hx, hlx⟩ := liveId_iff.1 hlj
      exact liveId_iff.2 ⟨x, key j x hj hx, hlx⟩
  refine ⟨fun k hI => Nat.lt_of_lt_of_le (h.im k hI) hsz, fun j x hx => ?_, fun i j k hi hj => h.inj i j k (kl i hi) (kl j hj)⟩
  by_cases hj : j = id
  · subst hj; rw [get_set_same hg] at hx; cases hx; exact ⟨b, hb, he⟩
  · have hx' := key j x hj hx
    obtain ⟨b', hb', hok⟩ := h.ok j x hx'
    refine ⟨b', hb', hok.mono hb' (CxLe.refl _) hs (fun hB => ?_) (fun _ hn => hn)⟩
    refine hk _ (hok.block hB) (fun heq => ?_)
    subst heq
    rcases h.or_live hx' hb' hB with h1 | h1
    · exact hnI h1
    · exact hj (h.inj j id b' h1 hli hb' hb)
/-- A row is closed: it never turns again. -/
theorem StoreOk.freeze {Γ : Cx} {w : World} {σ : Store} {id b : Nat} {e : TypeId} {s n : Nat} {f : Nat → List D} {fz : Bool} (h : StoreOk Γ w σ) (hg : get σ id = some (.row e s n f fz)) (hb : Γ.ρ id = some b) :
    StoreOk (Γ.also fun k => k = b ∧ ∃ c, Γ.κ id = some c) w (set σ id (.row e s n f true)) := by
  have hle : CxLe Γ (Γ.also fun k => k = b ∧ ∃ c, Γ.κ id = some c) := CxLe.also _ _
  have key : ∀ j x, j ≠ id → get (set σ id (.row e s n f true)) j = some x → get σ j = some x := fun j x hj hx => by rw [get_set_other hj] at hx; exact hx
  obtain ⟨b0, hb0, hok0⟩ := h.ok id _ hg
  rw [hb] at hb0; cases hb0
  have kl : ∀ j, LiveId (Γ.also fun k => k = b ∧ ∃ c, Γ.κ id = some c) (set σ id (.row e s n f true)) j → j ≠ id ∧ LiveId Γ σ j := fun j hlj => by
    obtain ⟨x, hx, hlx⟩ := liveId_iff.1 hlj
    have hj : j ≠ id := fun e => by
      subst e; rw [get_set_same hg] at hx; cases hx; simp [LiveE] at hlx
    exact ⟨hj, liveId_iff.2 ⟨x, key j x hj hx, by cases x <;> exact hlx⟩⟩
  refine ⟨fun k hI => ?_, fun j x hx => ?_, fun i j k hi hj => h.inj i j k (kl i hi).2 (kl j hj).2⟩
  · rcases hI with hI | ⟨rfl, hc⟩
    · exact h.im k hI
    · exact hok0.block hc
  · by_cases hj : j = id
    · subst hj; rw [get_set_same hg] at hx; cases hx
      refine ⟨b, hb, ?_⟩
      rcases hok0 with h1 | ⟨c, h1, h2, h3, h4, h5, h6, xs, h7, h8, h9⟩
      · exact .inl h1
      · exact .inr ⟨c, h1, fun _ => .inr ⟨rfl, c, h1⟩, (fun hf => by cases hf), h4, h5, h6, xs, h7, h8, fun i k d hi hd => by
          obtain ⟨x, hx, hr⟩ := h9 i k d hi hd
          exact ⟨x, hx, hr.mono hle.im (fun _ _ => rfl)⟩⟩
    · have hx' := key j x hj hx
      obtain ⟨b', hb', hok⟩ := h.ok j x hx'
      refine ⟨b', hb', hok.mono hb' hle (fun _ _ => rfl) (fun _ => rfl) (fun hB hn => ?_)⟩
      rintro (hI | ⟨heq, hc⟩)
      · exact hn hI
      · subst heq
        rcases h.or_live hx' hb' hB with h1 | h1
        · exact hn h1
        · rcases h.or_live hg hb hc with h2 | h2
          · exact hn h2
          · exact hj (h.inj j id b' h1 h2 hb' hb)
theorem live_also {Γ : Cx} {p : Nat → Prop} {σ : Store} {k : Nat} : Live (Γ.also p) σ k ↔ Live Γ σ k := by
  constructor
  · rintro ⟨id, hl, hk⟩; exact ⟨id, hl.imp (fun h => h) (fun h => h), hk⟩
  · rintro ⟨id, hl, hk⟩; exact ⟨id, hl.imp (fun h => h) (fun h => h), hk⟩
theorem live_set_frozen {Γ : Cx} {σ : Store} {id k : Nat} {e : TypeId} {s n : Nat} {f : Nat → List D} {x : Ent} (hg : get σ id = some x) (h : Live Γ (set σ id (.row e s n f true)) k) : Live Γ σ k := by
  obtain ⟨j, hlj, hk⟩ := h
  obtain ⟨y, hy, hly⟩ := liveId_iff.1 hlj
  by_cases hj : j = id
  · subst hj; rw [get_set_same hg] at hy; cases hy; simp [LiveE] at hly
  · rw [get_set_other hj] at hy
    exact ⟨j, liveId_iff.2 ⟨y, hy, hly⟩, hk⟩
/-- A step that keeps every name: CxLe gives Ext's clauses on names below any base whose names are in use. -/
theorem Ext.grow {base : Nat} {Γ Γ' : Cx} {w w' : World} {σ : Store} (hρ : ∀ id, id < base → Γ'.ρ id = Γ.ρ id) (hκ : ∀ id, id < base → Γ'.κ id = Γ.κ id) (him : ∀ k, Γ.I k → Γ'.I k) (hnew : ∀ k, Γ'.I k → Γ.I k ∨ w.heap.size ≤ k ∨ Live Γ σ k)
    (ho : w'.os = w.os) (ht : w'.tape = w.tape) (hu : w'.output = w.output)
    (hsz : w.heap.size ≤ w'.heap.size) (hk : ∀ k, k < w.heap.size → ¬ Live Γ σ k → w'.heap[k]? = w.heap[k]?) (σ' : Store) (hl : ∀ k, Live Γ' σ' k → Live Γ σ k ∨ w.heap.size ≤ k) :
    Ext base Γ w σ Γ' w' σ' :=
  ⟨ho, ht, hu, hsz, him, hnew, hρ, hκ, hk, hl⟩
theorem upd_ρ {Γ : Cx} {id b : Nat} {κ : Option Nat} {i : Nat} (h : i ≠ id) : (Γ.upd id b κ).ρ i = Γ.ρ i := by simp [Cx.upd, h]
theorem upd_κ {Γ : Cx} {id b : Nat} {κ : Option Nat} {i : Nat} (h : i ≠ id) : (Γ.upd id b κ).κ i = Γ.κ i := by simp [Cx.upd, h]
theorem upd_ρ_same {Γ : Cx} {id b : Nat} {κ : Option Nat} : (Γ.upd id b κ).ρ id = some b := by simp [Cx.upd]
theorem upd_κ_same {Γ : Cx} {id b : Nat} {κ : Option Nat} : (Γ.upd id b κ).κ id = κ := by simp [Cx.upd]
theorem heap_alloc {w : World} {o : Obj} {k : Nat} (h : k < w.heap.size) : (w.alloc o).heap[k]? = w.heap[k]? := Below.heap_alloc w o k h
theorem heap_alloc_new' (w : World) (o : Obj) : (w.alloc o).heap[w.heap.size]? = some o := by
  show (w.heap.push o)[w.heap.size]? = some o
  simp
/-- A new entry under a new name, its block new or no longer anyone's. -/
theorem StoreOk.fresh {Γ : Cx} {w w' : World} {σ : Store} {id b : Nat} {κ : Option Nat} {e : Ent} (h : StoreOk Γ w σ) (hid : Γ.ρ id = none)
    (hsz : w.heap.size ≤ w'.heap.size) (hk : ∀ k, k < w.heap.size → k ≠ b → w'.heap[k]? = w.heap[k]?) (hb : LiveE (Γ.upd id b κ) id e → ¬ Live Γ σ b) (hbI : w'.heap[b]? = w.heap[b]? ∨ (¬ Γ.I b ∧ ¬ Live Γ σ b))
    (he : EntOk (Γ.upd id b κ) w' id b e) : StoreOk (Γ.upd id b κ) w' ((id, e) :: σ) := by
  have hle := CxLe.upd Γ b κ hid
  have hk' : ∀ k, k < w.heap.size → (Γ.I k ∨ Live Γ σ k) → w'.heap[k]? = w.heap[k]? := fun k hlt hor => by
    by_cases hkb : k = b
    · subst hkb
      rcases hbI with h1 | ⟨h1, h2⟩
      · exact h1
      · rcases hor with h3 | h3
        · exact absurd h3 h1
        · exact absurd h3 h2
    · exact hk k hlt hkb
  have h1 : StoreOk (Γ.upd id b κ) w' σ := h.keep hle (fun k hI => Nat.lt_of_lt_of_le (h.im k hI) hsz) (fun k hI => hk' k (h.im k hI) (.inl hI)) (fun k hl => hk' k (h.live_lt hl) (.inr hl)) (fun k hl hI => h.not_live hI hl)
  refine h1.cons upd_ρ_same he (fun hl j hj hlj hjb => ?_)
  have hlj' := (h.liveId hle j).1 hlj
  rw [upd_ρ hj] at hjb
  exact hb hl ⟨j, hlj', hjb⟩
theorem live_fresh {Γ : Cx} {w : World} {σ : Store} {id b : Nat} {κ : Option Nat} {e : Ent} (h : StoreOk Γ w σ) (hid : Γ.ρ id = none) {k : Nat} (hl : Live (Γ.upd id b κ) ((id, e) :: σ) k) :
    Live Γ σ k ∨ (k = b ∧ LiveE (Γ.upd id b κ) id e) := by
  obtain ⟨j, hlj, hk⟩ := hl
  obtain ⟨x, hx, hlx⟩ := liveId_iff.1 hlj
  by_cases hj : j = id
  · subst hj; rw [get_cons_same] at hx; cases hx; rw [upd_ρ_same] at hk; cases hk; exact .inr ⟨rfl, hlx⟩
  · rw [get_cons_other hj] at hx
    have hlj' : LiveId (Γ.upd id b κ) σ j := liveId_iff.2 ⟨x, hx, hlx⟩
    exact .inl ⟨j, (h.liveId (CxLe.upd Γ b κ hid) j).1 hlj', by rw [upd_ρ hj] at hk; exact hk⟩
theorem alloc_ent {base : Nat} {Γ : Cx} {w : World} {σ : Store} {id : Nat} (h : StoreOk Γ w σ) (hid : Γ.ρ id = none) (hbase : base ≤ id) (o : Obj) (κ : Option Nat) (e : Ent)
    (he : EntOk (Γ.upd id w.heap.size κ) (w.alloc o) id w.heap.size e) :
    StoreOk (Γ.upd id w.heap.size κ) (w.alloc o) ((id, e) :: σ) ∧ Ext base Γ w σ (Γ.upd id w.heap.size κ) (w.alloc o) ((id, e) :: σ) := by
  have hnI : ¬ Γ.I w.heap.size := fun hI => Nat.lt_irrefl _ (h.im _ hI)
  have hnL : ¬ Live Γ σ w.heap.size := fun hl => Nat.lt_irrefl _ (h.live_lt hl)
  refine ⟨h.fresh hid (by simp) (fun k hk _ => heap_alloc hk) (fun _ => hnL) (.inr ⟨hnI, hnL⟩) he,
    Ext.grow (Γ := Γ) (w := w) (w' := w.alloc o) (fun i hi => upd_ρ (by omega)) (fun i hi => upd_κ (by omega)) (fun _ h => h) (fun _ h => .inl h) rfl rfl rfl (by simp) (fun k hk _ => heap_alloc hk) _ (fun k hk => ?_)⟩
  rcases live_fresh h hid hk with h1 | ⟨rfl, _⟩
  · exact .inl h1
  · exact .inr (Nat.le_refl _)
theorem alloc_same {Γ : Cx} {w : World} {σ : Store} (h : StoreOk Γ w σ) (o : Obj) : Same Γ.I w (w.alloc o) := fun k hI => heap_alloc (h.im k hI)
theorem alloc_box {base : Nat} {Γ : Cx} {w : World} {σ : Store} {id : Nat} (h : StoreOk Γ w σ) (hid : Γ.ρ id = none) (hbase : base ≤ id) (t : TypeId) (xs : Array Value) (cs : List C) (hl : xs.size = cs.length)
    (hr : ∀ (i : Nat) (c : C), cs[i]? = some c → ∃ x, xs[i]? = some x ∧ RepC Γ w c x) :
    StoreOk (Γ.upd id w.heap.size none) (w.alloc (.cells xs t)) ((id, .box cs) :: σ) ∧
      Ext base Γ w σ (Γ.upd id w.heap.size none) (w.alloc (.cells xs t)) ((id, .box cs) :: σ) := by
  refine alloc_ent h hid hbase _ _ _ ⟨fun hI => Nat.lt_irrefl _ (h.im _ hI), xs, t, heap_alloc_new' _ _, hl, fun i c hc => ?_⟩
  obtain ⟨x, hx, hc'⟩ := hr i c hc
  exact ⟨x, hx, hc'.mono (CxLe.upd _ _ _ hid) (alloc_same h _)⟩
theorem alloc_row {base : Nat} {Γ : Cx} {w : World} {σ : Store} {id : Nat} (h : StoreOk Γ w σ) (hid : Γ.ρ id = none) (hbase : base ≤ id) (e : TypeId) (s n c : Nat) (f : Nat → List D) (xs : Array Value) (hn : n ≤ c) (hc : c ≤ maxLen)
    (hl : xs.size = c * s) (hf : ∀ i, i < n → (f i).length = s) (hr : ∀ (i j : Nat) (d : D), i < n → (f i)[j]? = some d → ∃ x, xs[i * s + j]? = some x ∧ RepD Γ.I w d x) :
    StoreOk (Γ.upd id w.heap.size (some c)) (w.alloc (.cells xs e)) ((id, .row e s n f false) :: σ) ∧
      Ext base Γ w σ (Γ.upd id w.heap.size (some c)) (w.alloc (.cells xs e)) ((id, .row e s n f false) :: σ) := by
  refine alloc_ent h hid hbase _ _ _ (.inr ⟨c, upd_κ_same, (fun hf => by cases hf), fun _ hI => Nat.lt_irrefl _ (h.im _ hI), hn, hc, hf, xs, heap_alloc_new' _ _, hl, fun i j d hi hd => ?_⟩)
  obtain ⟨x, hx, hc'⟩ := hr i j d hi hd
  exact ⟨x, hx, hc'.mono (fun _ h => h) (alloc_same h _)⟩
/-- A name for a nil slice. -/
theorem name_nil {base : Nat} {Γ : Cx} {w : World} {σ : Store} {id : Nat} (h : StoreOk Γ w σ) (hid : Γ.ρ id = none) (hbase : base ≤ id) (e : TypeId) (s : Nat) (f : Nat → List D) :
    StoreOk (Γ.upd id 0 none) w ((id, .row e s 0 f false) :: σ) ∧ Ext base Γ w σ (Γ.upd id 0 none) w ((id, .row e s 0 f false) :: σ) := by
  have hnl : ¬ LiveE (Γ.upd id 0 none) id (.row e s 0 f false) := fun ⟨_, c, hc⟩ => by rw [upd_κ_same] at hc; cases hc
  refine ⟨h.fresh hid (Nat.le_refl _) (fun _ _ _ => rfl) (fun hl => absurd hl hnl) (.inl rfl) (.inl ⟨upd_κ_same, rfl⟩),
    Ext.grow (Γ := Γ) (w := w) (w' := w) (fun i hi => upd_ρ (by omega)) (fun i hi => upd_κ (by omega)) (fun _ h => h) (fun _ h => .inl h) rfl rfl rfl (Nat.le_refl _) (fun k _ _ => rfl) _ (fun k hk => ?_)⟩
  rcases live_fresh h hid hk with h1 | ⟨_, h1⟩
  · exact .inl h1
  · exact absurd h1 hnl
/-- A new block that never turns. -/
theorem alloc_still {base : Nat} {Γ : Cx} {w : World} {σ : Store} (h : StoreOk Γ w σ) (o : Obj) :
    StoreOk (Γ.also fun k => k = w.heap.size) (w.alloc o) σ ∧ Ext base Γ w σ (Γ.also fun k => k = w.heap.size) (w.alloc o) σ := by
  have hle : CxLe Γ (Γ.also fun k => k = w.heap.size) := CxLe.also _ _
  refine ⟨h.keep hle (fun k hI => ?_) (alloc_same h o) (fun k hl => heap_alloc (h.live_lt hl)) (fun k hl hI => ?_),
    Ext.grow (Γ := Γ) (Γ' := Γ.also fun k => k = w.heap.size) (w := w) (w' := w.alloc o) (fun _ _ => rfl) (fun _ _ => rfl) (fun _ h => .inl h) (fun k h => h.imp id (fun e => .inl (Nat.le_of_eq e.symm))) rfl rfl rfl (by simp) (fun k hk _ => heap_alloc hk) _ (fun k hk => .inl (live_also.1 hk))⟩
  · rcases hI with hI | rfl
    · have := h.im k hI; simp; omega
    · simp
  · rcases hI with hI | rfl
    · exact h.not_live hI hl
    · exact Nat.lt_irrefl _ (h.live_lt hl)
theorem Ext.modify {base : Nat} {Γ : Cx} {w w' : World} {σ σ' : Store} {id b : Nat} (hl : LiveId Γ σ id) (hb : Γ.ρ id = some b) (ho : w'.os = w.os) (ht : w'.tape = w.tape) (hu : w'.output = w.output)
    (hsz : w.heap.size ≤ w'.heap.size) (hk : ∀ k, k < w.heap.size → k ≠ b → w'.heap[k]? = w.heap[k]?) (hl' : ∀ k, Live Γ σ' k → Live Γ σ k) : Ext base Γ w σ Γ w' σ' :=
  ⟨ho, ht, hu, hsz, fun _ h => h, fun _ h => .inl h, fun _ _ => rfl, fun _ _ => rfl, fun k hk' hn => hk k hk' (fun e => hn ⟨id, hl, e ▸ hb⟩), fun k hk => .inl (hl' k hk)⟩
theorem live_set {Γ : Cx} {σ : Store} {id k : Nat} {e e' : Ent} (hg : get σ id = some e) (hl : LiveE Γ id e) (h : Live Γ (set σ id e') k) : Live Γ σ k := by
  obtain ⟨j, hlj, hk⟩ := h
  by_cases hj : j = id
  · subst hj; exact ⟨j, liveId_iff.2 ⟨e, hg, hl⟩, hk⟩
  · obtain ⟨x, hx, hlx⟩ := liveId_iff.1 hlj
    rw [get_set_other hj] at hx
    exact ⟨j, liveId_iff.2 ⟨x, hx, hlx⟩, hk⟩
/-- An owned row goes over to a new name: its block written or left behind. -/
theorem StoreOk.moved {base : Nat} {Γ : Cx} {w w' : World} {σ : Store} {id id' b : Nat} {κ : Option Nat} {x e : Ent} (h : StoreOk Γ w σ) (hg : get σ id = some x) (hid : Γ.ρ id' = none) (hbase : base ≤ id')
    (ho : w'.os = w.os) (ht : w'.tape = w.tape) (hu : w'.output = w.output)
    (hsz : w.heap.size ≤ w'.heap.size) (hk : ∀ k, k < w.heap.size → (∀ b0, Γ.ρ id = some b0 → HasB Γ id x → k ≠ b0) → w'.heap[k]? = w.heap[k]?)
    (hx : LiveE Γ id x ∨ ¬ HasB Γ id x) (hb : (Γ.ρ id = some b ∧ HasB Γ id x) ∨ w.heap.size ≤ b ∨ ¬ LiveE (Γ.upd id' b κ) id' e)
    (he : EntOk (Γ.upd id' b κ) w' id' b e) :
    StoreOk (Γ.upd id' b κ) w' ((id', e) :: Pw.del σ id) ∧ Ext base Γ w σ (Γ.upd id' b κ) w' ((id', e) :: Pw.del σ id) := by
  have hle := CxLe.upd Γ b κ hid
  have hd := h.del id
  have hne : ∀ j, LiveId Γ (Pw.del σ id) j → ∀ b0, Γ.ρ id = some b0 → HasB Γ id x → Γ.ρ j ≠ some b0 := fun j hl b0 hb0 hB heq => by
    obtain ⟨hj, hl'⟩ := liveId_del hl
    rcases hx with hx | hx
    · exact hj (h.inj j id b0 hl' (liveId_iff.2 ⟨x, hg, hx⟩) heq hb0)
    · exact hx hB
  have hnI : ∀ b0, Γ.ρ id = some b0 → HasB Γ id x → ¬ Γ.I b0 := fun b0 hb0 hB hI => by
    rcases hx with hx | hx
    · exact h.not_live hI ⟨id, liveId_iff.2 ⟨x, hg, hx⟩, hb0⟩
    · exact hx hB
  have hs : Same Γ.I w w' := fun k hI => hk k (h.im k hI) (fun b0 hb0 hB e => hnI b0 hb0 hB (e ▸ hI))
  have hlv : ∀ k, Live Γ (Pw.del σ id) k → w'.heap[k]? = w.heap[k]? := fun k hl => by
    obtain ⟨j, hlj, hj⟩ := hl
    exact hk k (hd.live_lt ⟨j, hlj, hj⟩) (fun b0 hb0 hB e => hne j hlj b0 hb0 hB (e ▸ hj))
  have h1 : StoreOk (Γ.upd id' b κ) w' (Pw.del σ id) := hd.keep hle (fun k hI => Nat.lt_of_lt_of_le (h.im k hI) hsz) hs hlv (fun k hl hI => hd.not_live hI hl)
  have h2 : StoreOk (Γ.upd id' b κ) w' ((id', e) :: Pw.del σ id) := by
    refine h1.cons upd_ρ_same he (fun hl j hj hlj hjb => ?_)
    have hlj' := (hd.liveId hle j).1 hlj
    rw [upd_ρ hj] at hjb
    rcases hb with ⟨h3, h4⟩ | h3 | h3
    · exact hne j hlj' b h3 h4 hjb
    · have := hd.live_lt ⟨j, hlj', hjb⟩; omega
    · exact h3 hl
  refine ⟨h2, Ext.grow (Γ := Γ) (w := w) (w' := w') (fun i hi => upd_ρ (by omega)) (fun i hi => upd_κ (by omega)) (fun _ h => h) (fun _ h => .inl h) ho ht hu hsz (fun k hlt hn => hk k hlt (fun b0 hb0 hB e => ?_)) _ (fun k hk => ?_)⟩
  · rcases hx with hx | hx
    · exact hn ⟨id, liveId_iff.2 ⟨x, hg, hx⟩, e ▸ hb0⟩
    · exact hx hB
  · rcases live_fresh hd hid hk with h3 | ⟨rfl, h3⟩
    · exact .inl (live_del h3)
    · rcases hb with ⟨h4, h5⟩ | h4 | h4
      · rcases hx with hx | hx
        · exact .inl ⟨id, liveId_iff.2 ⟨x, hg, hx⟩, h4⟩
        · exact absurd h5 hx
      · exact .inr h4
      · exact absurd h3 h4
end Go.Pw

namespace Go.Pw
open Go Go.RowKit
inductive LOp where
  | mv (x : Operand)
  | nilc (x : Operand)
  | pick (c a b : Operand)
  | alloc (zero : List Value)
  | box (x : Operand)
  | build (zero : List Value) (parts : List (Nat × Nat × Operand))
  | lit (own : Bool) (e : TypeId) (s : Nat) (parts : List Operand)
  | load (agg : Bool) (n : Nat) (a : Operand)
  | store (n : Nat) (a x : Operand)
  | bin (op : BinOp) (x y : Operand)
  | binW (op : BinOp) (x y : Operand)
  | eqA (neg : Bool) (n : Nat) (x y : Operand)
  | eqB (neg : Bool) (x y : Operand)
  | un (op : UnOp) (x : Operand)
  | conv (k : IntKind) (x : Operand)
  | mkfn (f : FuncId) (caps : List Operand)
  | make (own : Bool) (e : TypeId) (s bytes : Nat) (zero : List Value) (len : Operand)
  | slc (s : Nat) (x : Operand) (lo hi : Option Operand)
  | slcS (x : Operand) (lo hi : Option Operand)
  | fld (off : Nat) (x : Operand)
  | idx (s : Nat) (x i : Operand)
  | idxA (s len : Nat) (x i : Operand)
  | part (agg : Bool) (off n : Nat) (x : Operand)
  | index (agg : Bool) (s len : Nat) (x i : Operand)
  | indexS (x i : Operand)
  | ext (x : Operand) (i : Nat)
  | len (x : Operand)
  | lenS (x : Operand)
  | append (own : Bool) (e : TypeId) (s bytes : Nat) (x y : Operand)
  | mm (isMax : Bool) (xs : List Operand)
  | call (f : Operand) (args : List Operand)
  | bad
structure LIns where
  dst : Option Nat
  op : LOp
  guard : Option (Nat × Bool)
abbrev Res := Prop × V × Store × Nat
def R64 (n : Int) : Prop := -9223372036854775808 ≤ n ∧ n ≤ 9223372036854775807
def frc {R : Type} : List C → (List C → Option R) → Option R
  | [], k => k []
  | c :: cs, k => frc cs fun l => k (c :: l)
def frs {R : Type} : Store → (Store → Option R) → Option R
  | [], k => k []
  | (i, e) :: cs, k => frs cs fun l => k ((i, e) :: l)
def tkc {R : Type} : Nat → List C → (List C → Option R) → Option R
  | 0, _, k => k []
  | n + 1, c :: cs, k => tkc n cs fun l => k (c :: l)
  | _ + 1, [], _ => none
def tkd {R : Type} : Nat → List D → (List C → Option R) → Option R
  | 0, _, k => k []
  | n + 1, c :: cs, k => tkd n cs fun l => k (.d c :: l)
  | _ + 1, [], _ => none
theorem frc_eq {R : Type} (l : List C) : ∀ (k : List C → Option R), frc l k = k l := by
  induction l with
  | nil => intro k; rfl
  | cons c cs ih => intro k; simp only [frc, ih]
theorem frs_eq {R : Type} (l : Store) : ∀ (k : Store → Option R), frs l k = k l := by
  induction l with
  | nil => intro k; rfl
  | cons c cs ih => intro k; simp only [frs, ih]
theorem tkc_some {R : Type} : ∀ (n : Nat) (l : List C) (k : List C → Option R) (r : R), tkc n l k = some r → n ≤ l.length ∧ k (l.take n) = some r
  | 0, l, k, r, h => ⟨Nat.zero_le _, by simpa [tkc] using h⟩
  | n + 1, [], k, r, h => by simp [tkc] at h
  | n + 1, c :: cs, k, r, h => by
    have := tkc_some n cs _ r h
    exact ⟨by simp; exact this.1, by simpa using this.2⟩
theorem tkd_some {R : Type} : ∀ (n : Nat) (l : List D) (k : List C → Option R) (r : R), tkd n l k = some r → n ≤ l.length ∧ k ((l.take n).map .d) = some r
  | 0, l, k, r, h => ⟨Nat.zero_le _, by simpa [tkd] using h⟩
  | n + 1, [], k, r, h => by simp [tkd] at h
  | n + 1, c :: cs, k, r, h => by
    have := tkd_some n cs _ r h
    exact ⟨by simp; exact this.1, by simpa using this.2⟩
def putC : List C → Nat → List C → List C
  | cs, 0, [] => cs
  | _ :: cs, 0, x :: l => x :: putC cs 0 l
  | c :: cs, o + 1, l => c :: putC cs o l
  | [], _, _ => []
def putD : List D → Nat → List D → List D
  | cs, _, [] => cs
  | [], _, _ => []
  | _ :: cs, 0, d :: ds => d :: putD cs 0 ds
  | c :: cs, n + 1, ds => c :: putD cs n ds
/-- Row i, its cells from j on written. -/
def setRw (f : Nat → List D) (i j : Nat) (ds : List D) (k : Nat) : List D :=
  match Nat.beq k i with
  | true => putD (f i) j ds
  | false => f k
theorem putD_len : ∀ (cs : List D) (n : Nat) (ds : List D), (putD cs n ds).length = cs.length := by
  intro cs n ds
  fun_induction putD cs n ds <;> simp_all
theorem putD_get : ∀ (cs : List D) (n : Nat) (ds : List D), n + ds.length ≤ cs.length → ∀ j, (putD cs n ds)[j]? = if n ≤ j ∧ j < n + ds.length then ds[j - n]? else cs[j]? := by
  intro cs n ds
  fun_induction putD cs n ds with
  | case1 cs n => intro _ j; simp; intro h1 h2; omega
  | case2 n ds h => intro hl j; cases ds with | nil => exact absurd rfl (h) | cons => simp at hl
  | case3 c cs d ds ih =>
    intro hl j
    have ih := ih (by simp at hl ⊢; omega)
    cases j with
    | zero => simp
    | succ j => simp only [List.getElem?_cons_succ, ih j, Nat.zero_le, true_and, Nat.zero_add, List.length_cons, Nat.sub_zero]; split <;> split <;> first | rfl | omega
  | case4 c cs n ds h ih =>
    intro hl j
    have ih := ih (by simp at hl ⊢; omega)
    cases j with
    | zero => simp
    | succ j => simp only [List.getElem?_cons_succ, ih j]; split <;> split <;> first | rfl | (exfalso; omega) | (congr 1; omega)
theorem putC_length : ∀ (cs : List C) (o : Nat) (l : List C), (putC cs o l).length = cs.length
  | [], 0, [] => rfl
  | [], 0, _ :: _ => rfl
  | [], _ + 1, _ => rfl
  | _ :: cs, 0, [] => rfl
  | _ :: cs, 0, x :: l => by simp [putC, putC_length cs 0 l]
  | c :: cs, o + 1, l => by simp [putC, putC_length cs o l]
theorem putC_eq : ∀ (cs : List C) (o : Nat) (l : List C), o + l.length ≤ cs.length → putC cs o l = cs.take o ++ l ++ cs.drop (o + l.length)
  | cs, 0, [], _ => by cases cs <;> simp [putC]
  | [], 0, _ :: _, h => by simp at h
  | [], o + 1, l, h => by simp at h
  | _ :: cs, 0, x :: l, h => by
    have := putC_eq cs 0 l (by simp at h ⊢; omega)
    simp only [Nat.zero_add, List.take_zero, List.nil_append] at this
    simp [putC, this]
  | c :: cs, o + 1, l, h => by
    have := putC_eq cs o l (by simp at h ⊢; omega)
    simp [putC, this, Nat.add_right_comm]
def vcells : V → Option (List C)
  | .c x => some [x]
  | .agg cs => some cs
  | _ => none
def toD : C → Option D
  | .d x => some x
  | .tru => some (.v (.bool true))
  | .fls => some (.v (.bool false))
  | _ => none
def toDs {R : Type} : List C → (List D → Option R) → Option R
  | [], k => k []
  | .d x :: cs, k => toDs cs fun l => k (x :: l)
  | .tru :: cs, k => toDs cs fun l => k (.v (.bool true) :: l)
  | .fls :: cs, k => toDs cs fun l => k (.v (.bool false) :: l)
  | _ :: _, _ => none
def kn : IntKind → Nat
  | .i8 => 0 | .i16 => 1 | .i32 => 2 | .i64 => 3 | .u8 => 4 | .u16 => 5 | .u32 => 6 | .u64 => 7
def ksame (a b : IntKind) : Bool := Nat.beq (kn a) (kn b)
theorem ksame_eq {a b : IntKind} (h : ksame a b = true) : a = b := by
  revert h; cases a <;> cases b <;> simp [ksame, kn]
abbrev vi (k : IntKind) (n : Int) : V := .c (.d (.v (.int k n)))
abbrev vbl (b : Bool) : V := .c (.d (.v (.bool b)))
/-- Go's two-operand operators on numbers: what is owed (no wrap of an int), and the result. -/
def arith (op : BinOp) (k : IntKind) (a b : Int) : Option (Prop × V) :=
  match op with
  | .add => match k with | .i64 => some (R64 (a + b), vi .i64 (a + b)) | k => some (True, vi k (k.wrap (a + b)))
  | .sub => match k with | .i64 => some (R64 (a - b), vi .i64 (a - b)) | k => some (True, vi k (k.wrap (a - b)))
  | .mul => match k with | .i64 => some (R64 (a * b), vi .i64 (a * b)) | k => some (True, vi k (k.wrap (a * b)))
  | .quo => match k with | .i64 => some (b ≠ 0 ∧ R64 (a.tdiv b), vi .i64 (a.tdiv b)) | k => some (b ≠ 0, vi k (k.wrap (a.tdiv b)))
  | .rem => some (b ≠ 0, vi k (a.tmod b))
  | .eql => some (True, vbl (decide (a = b)))
  | .neq => some (True, vbl (!decide (a = b)))
  | .lss => some (True, vbl (decide (a < b)))
  | .leq => some (True, vbl (decide (a ≤ b)))
  | .gtr => some (True, vbl (decide (b < a)))
  | .geq => some (True, vbl (decide (b ≤ a)))
  | .and => some (True, vi k (k.wrap (BitVec.ofInt k.bits a &&& BitVec.ofInt k.bits b).toNat))
  | .or => some (True, vi k (k.wrap (BitVec.ofInt k.bits a ||| BitVec.ofInt k.bits b).toNat))
  | .xor => some (True, vi k (k.wrap (BitVec.ofInt k.bits a ^^^ BitVec.ofInt k.bits b).toNat))
  | _ => none
/-- Shifts. -/
def shiftV (op : BinOp) (k : IntKind) (a b : Int) : Option (Prop × V) :=
  match op with
  | .shl => some (0 ≤ b, vi k (k.wrap (a * 2 ^ min b.toNat k.bits)))
  | .shr => some (0 ≤ b, vi k (a.fdiv (2 ^ min b.toNat k.bits)))
  | _ => none
def isShift : BinOp → Bool
  | .shl | .shr => true
  | _ => false
def binV (op : BinOp) (k : IntKind) (a : Int) (k' : IntKind) (b : Int) : Option (Prop × V) :=
  match isShift op with
  | true => shiftV op k a b
  | false => match ksame k k' with
    | true => arith op k a b
    | false => none
/-- Sums that may wrap. -/
def arithW (op : BinOp) (k : IntKind) (a b : Int) : Option V :=
  match op with
  | .add => some (vi k (k.wrap (a + b)))
  | .sub => some (vi k (k.wrap (a - b)))
  | .mul => some (vi k (k.wrap (a * b)))
  | _ => none
def eqR {R : Type} : List C → List C → Bool → (Bool → Option R) → Option R
  | [], [], acc, q => q acc
  | .d (.v (.int k a)) :: xs, .d (.v (.int k' b)) :: ys, acc, q => match ksame k k' with | true => eqR xs ys (acc && decide (a = b)) q | false => none
  | _, _, _, _ => none
def eqC {R : Type} : List C → List C → (Bool → Option R) → Option R
  | .d (.v (.int k a)) :: xs, .d (.v (.int k' b)) :: ys, q => match ksame k k' with | true => eqR xs ys (decide (a = b)) q | false => none
  | _, _, _ => none
def ids {R : Type} (ev : Operand → V) : List Operand → (List Nat → Option R) → Option R
  | [], k => k []
  | x :: xs, k => match ev x with
    | .c (.bp id 0) => ids ev xs fun l => k (id :: l)
    | _ => none
def zeros {R : Type} : List Value → (List C → Option R) → Option R
  | [], k => k []
  | x :: xs, k => zeros xs fun l => k (.d (.v x) :: l)
def bld {R : Type} (ev : Operand → V) : List (Nat × Nat × Operand) → List C → (List C → Option R) → Option R
  | [], cs, k => k cs
  | (off, n, x) :: ps, cs, k => match vcells (ev x) with
    | some l => match Nat.beq l.length n, Nat.ble (off + n) cs.length with
      | true, true => frc (putC cs off l) fun cs' => bld ev ps cs' k
      | _, _ => none
    | none => none
def rowsOf {R : Type} (ev : Operand → V) (s : Nat) : List Operand → (List (List D) → Option R) → Option R
  | [], k => k []
  | x :: xs, k => match vcells (ev x) with
    | some l => match Nat.beq l.length s with
      | true => toDs l fun ds => rowsOf ev s xs fun rs => k (ds :: rs)
      | false => none
    | none => none
def mmx (isMax : Bool) (ev : Operand → V) (k : IntKind) : List Operand → Int → Option V
  | [], a => some (vi k a)
  | x :: xs, a => match ev x with
    | .c (.d (.v (.int k' b))) => match ksame k k' with
      | true => match isMax with
        | true => mmx isMax ev k xs (max a b)
        | false => mmx isMax ev k xs (min a b)
      | false => none
    | _ => none
def vbool {R : Type} (v : V) (k : Bool → Option R) : Option R :=
  match v with
  | .c .tru => k true
  | .c .fls => k false
  | .c (.d (.v (.bool b))) => k b
  | _ => none
def xop (ev : Operand → V) (σ : Store) (nx : Nat) : LOp → Option Res
  | .mv x => match ev x with
    | .c y => some (True, .c y, σ, nx)
    | .agg y => some (True, .agg y, σ, nx)
    | .tup y => some (True, .tup y, σ, nx)
    | .unk => some (True, .unk, σ, nx)
  | .nilc x => match ev x with
    | .c (.fn f l) => some (True, .c (.fn f l), σ, nx)
    | .c (.bp i o) => some (True, .c (.bp i o), σ, nx)
    | .c (.rp r) => some (True, .c (.rp r), σ, nx)
    | .c (.yd i) => some (True, .c (.yd i), σ, nx)
    | _ => none
  | .pick c a b => match ev c with
    | .c .tru => match ev a with | .c y => some (True, .c y, σ, nx) | _ => none
    | .c .fls => match ev b with | .c y => some (True, .c y, σ, nx) | _ => none
    | _ => none
  | .alloc zero => zeros zero fun cs => some (True, .c (.bp nx 0), (nx, .box cs) :: σ, nx + 1)
  | .box x => match vcells (ev x) with
    | some l => some (True, .c (.bp nx 0), (nx, .box l) :: σ, nx + 1)
    | none => none
  | .build zero parts => zeros zero fun cs => bld ev parts cs fun cs' => some (True, .agg cs', σ, nx)
  | .lit own e s parts => rowsOf ev s parts fun rs =>
    match rs with
    | [] => some (True, .c .z, σ, nx)
    | r :: rs => match own with
      | true => some (True, .c (.ms nx (r :: rs).length), (nx, .row e s (r :: rs).length (fun i => (r :: rs).getD i []) false) :: σ, nx + 1)
      | false => some (True, .c (.d (.sl s (r :: rs).length fun i => (r :: rs).getD i [])), σ, nx)
  | .load agg n a => match ev a with
    | .c (.bp id off) => match get σ id with
      | some (.box cs) => match agg with
        | true => tkc n (cs.drop off) fun l => some (True, .agg l, σ, nx)
        | false => match cs.drop off with
          | c :: _ => some (True, .c c, σ, nx)
          | [] => none
      | _ => none
    | .c (.rp row) => match agg with
      | true => tkd n row fun l => some (True, .agg l, σ, nx)
      | false => match row with
        | d :: _ => some (True, .c (.d d), σ, nx)
        | [] => none
    | .c (.ep id s i j) => match get σ id with
      | some (.row _ s' m f _) => match Nat.beq s s' with
        | true => match agg with
          | true => tkd n ((f i).drop j) fun l => some (i < m, .agg l, σ, nx)
          | false => match (f i).drop j with
            | d :: _ => some (i < m, .c (.d d), σ, nx)
            | [] => none
        | false => none
      | _ => none
    | _ => none
  | .store n a x => match ev a with
    | .c (.bp id off) => match get σ id with
      | some (.box cs) => match vcells (ev x) with
        | some l => match Nat.beq l.length n, Nat.ble (off + n) cs.length with
          | true, true => frc (putC cs off l) fun cs' => frs (set σ id (.box cs')) fun σ' => some (True, .unk, σ', nx)
          | _, _ => none
        | none => none
      | _ => none
    | .c (.ep id s i j) => match get σ id with
      | some (.row e s' m f false) => match vcells (ev x) with
        | some l => toDs l fun ds => match Nat.beq s s', Nat.beq l.length n, Nat.ble (j + n) s with
          | true, true, true => frs (set σ id (.row e s m (setRw f i j ds) false)) fun σ' => some (i < m, .unk, σ', nx)
          | _, _, _ => none
        | none => none
      | _ => none
    | _ => none
  | .bin op x y => match ev x, ev y with
    | .c (.d (.v (.int k a))), .c (.d (.v (.int k' b))) => match binV op k a k' b with
      | some (p, v) => some (p, v, σ, nx)
      | none => none
    | _, _ => none
  | .binW op x y => match ev x, ev y with
    | .c (.d (.v (.int k a))), .c (.d (.v (.int k' b))) => match ksame k k' with
      | true => match arithW op k a b with
        | some v => some (True, v, σ, nx)
        | none => none
      | false => none
    | _, _ => none
  | .eqA neg n x y => match ev x, ev y with
    | .agg xs, .agg ys => match Nat.beq xs.length n, Nat.beq ys.length n with
      | true, true => eqC xs ys fun r => match neg with
        | true => some (True, vbl (!r), σ, nx)
        | false => some (True, vbl r, σ, nx)
      | _, _ => none
    | _, _ => none
  | .eqB neg x y => vbool (ev x) fun p => vbool (ev y) fun q => match neg with
    | true => some (True, vbl (p != q), σ, nx)
    | false => some (True, vbl (p == q), σ, nx)
  | .un op x => match op, ev x with
    | .not, .c .tru => some (True, .c .fls, σ, nx)
    | .not, .c .fls => some (True, .c .tru, σ, nx)
    | .not, .c (.d (.v (.bool b))) => some (True, vbl (!b), σ, nx)
    | .neg, .c (.d (.v (.int .i64 n))) => some (R64 (-n), vi .i64 (-n), σ, nx)
    | _, _ => none
  | .conv k x => match ev x with
    | .c (.d (.v (.int _ n))) => match k with
      | .i64 => some (R64 n, vi .i64 n, σ, nx)
      | k => some (True, vi k (k.wrap n), σ, nx)
    | _ => none
  | .mkfn f caps => ids ev caps fun l => some (True, .c (.fn f l), σ, nx)
  | .make own e s bytes zero len => match ev len with
    | .c (.d (.v (.int _ n))) => match own with
      | true => some (0 ≤ n ∧ n * (bytes : Int) ≤ 140737488355328, .c (.ms nx n.toNat), (nx, .row e s n.toNat (fun _ => zero.map .v) false) :: σ, nx + 1)
      | false => some (0 ≤ n ∧ n * (bytes : Int) ≤ 140737488355328, .c (.d (.sl s n.toNat fun _ => zero.map .v)), σ, nx)
    | _ => none
  | .slc s x lo hi => match ev x with
    | .c (.d (.sl s' n f)) => match Nat.beq s s' with
      | true => match lo, hi with
        | none, none => some (True, .c (.d (.sl s n f)), σ, nx)
        | none, some h => match ev h with
          | .c (.d (.v (.int _ h))) => some (0 ≤ h ∧ h ≤ n, .c (.d (.sl s h.toNat f)), σ, nx)
          | _ => none
        | some l, none => match ev l with
          | .c (.d (.v (.int _ l))) => some (0 ≤ l ∧ l ≤ n, .c (.d (.sl s (n - l.toNat) fun i => f (l.toNat + i))), σ, nx)
          | _ => none
        | some l, some h => match ev l, ev h with
          | .c (.d (.v (.int _ l))), .c (.d (.v (.int _ h))) => some (0 ≤ l ∧ l ≤ h ∧ h ≤ n, .c (.d (.sl s (h.toNat - l.toNat) fun i => f (l.toNat + i))), σ, nx)
          | _, _ => none
      | false => none
    | _ => none
  | .slcS _ _ _ => none
  | .fld off x => match ev x with
    | .c (.bp id o) => some (True, .c (.bp id (o + off)), σ, nx)
    | .c (.rp row) => some (True, .c (.rp (row.drop off)), σ, nx)
    | .c (.ep id s i j) => some (True, .c (.ep id s i (j + off)), σ, nx)
    | _ => none
  | .idx s x i => match ev x, ev i with
    | .c (.d (.sl s' n f)), .c (.d (.v (.int _ a))) => match Nat.beq s s' with
      | true => some (0 ≤ a ∧ a < n, .c (.rp (f a.toNat)), σ, nx)
      | false => none
    | .c (.ms id n), .c (.d (.v (.int _ a))) => some (0 ≤ a ∧ a < n, .c (.ep id s a.toNat 0), σ, nx)
    | _, _ => none
  | .idxA s len x i => match ev x, ev i with
    | .c (.bp id o), .c (.d (.v (.int _ a))) => some (0 ≤ a ∧ a < len, .c (.bp id (o + a.toNat * s)), σ, nx)
    | .c (.rp row), .c (.d (.v (.int _ a))) => some (0 ≤ a ∧ a < len, .c (.rp (row.drop (a.toNat * s))), σ, nx)
    | _, _ => none
  | .part agg off n x => match ev x with
    | .agg cs => match agg with
      | true => tkc n (cs.drop off) fun l => some (True, .agg l, σ, nx)
      | false => match cs.drop off with
        | c :: _ => some (True, .c c, σ, nx)
        | [] => none
    | _ => none
  | .index agg s len x i => match ev x, ev i with
    | .agg cs, .c (.d (.v (.int _ a))) => match agg with
      | true => tkc s (cs.drop (a.toNat * s)) fun l => some (0 ≤ a ∧ a < len, .agg l, σ, nx)
      | false => match cs.drop (a.toNat * s) with
        | c :: _ => some (0 ≤ a ∧ a < len, .c c, σ, nx)
        | [] => none
    | _, _ => none
  | .indexS x i => match ev x, ev i with
    | .c (.d (.v (.string b))), .c (.d (.v (.int _ a))) => some (0 ≤ a ∧ a < b.size, vi .u8 (b.data.toList.getD a.toNat 0).toNat, σ, nx)
    | _, _ => none
  | .ext x i => match ev x with
    | .tup vs => match vs.drop i with
      | .c y :: _ => some (True, .c y, σ, nx)
      | .agg y :: _ => some (True, .agg y, σ, nx)
      | .unk :: _ => some (True, .unk, σ, nx)
      | _ => none
    | _ => none
  | .len x => match ev x with
    | .c (.d (.sl _ n _)) => some (True, vi .i64 n, σ, nx)
    | .c (.ms _ n) => some (True, vi .i64 n, σ, nx)
    | .c (.d (.v (.slice none 0 0))) => some (True, vi .i64 0, σ, nx)
    | .c .z => some (True, vi .i64 0, σ, nx)
    | _ => none
  | .lenS x => match ev x with
    | .c (.d (.v (.string b))) => some (True, vi .i64 b.size, σ, nx)
    | _ => none
  | .append own e s bytes x y => match own, ev x, ev y with
    | true, .c (.ms id n), .c (.d (.sl s2 m g)) => match get σ id with
      | some (.row e' s' n' f false) => match Nat.beq e e', Nat.beq s s', Nat.beq s s2 with
        | true, true, true => frs (del σ id) fun σ' => some (n = n' ∧ (n + m) * bytes ≤ 140737488355328, .c (.ms nx (n + m)), (nx, .row e s (n + m) (fun i => if i < n then f i else g (i - n)) false) :: σ', nx + 1)
        | _, _, _ => none
      | _ => none
    | true, .c (.d (.v (.slice none 0 0))), .c (.d (.sl s2 m g)) => match Nat.beq s s2 with
      | true => some (m * bytes ≤ 140737488355328, .c (.ms nx m), (nx, .row e s m g false) :: σ, nx + 1)
      | false => none
    | true, .c .z, .c (.d (.sl s2 m g)) => match Nat.beq s s2 with
      | true => some (0 < m ∧ m * bytes ≤ 140737488355328, .c (.ms nx m), (nx, .row e s m g false) :: σ, nx + 1)
      | false => none
    | false, .c (.d (.v (.slice none 0 0))), .c (.d (.sl s2 m g)) => match Nat.beq s s2 with
      | true => some (m * bytes ≤ 140737488355328, .c (.d (.sl s m g)), σ, nx)
      | false => none
    | false, .c .z, .c (.d (.sl s2 m g)) => match Nat.beq s s2 with
      | true => some (m * bytes ≤ 140737488355328, .c (.d (.sl s m g)), σ, nx)
      | false => none
    | false, .c .z, .c (.ms id m) => match get σ id with
      | some (.row _ s2 m' g _) => match Nat.beq s s2 with
        | true => some (m ≤ m' ∧ m * bytes ≤ 140737488355328, .c (.d (.sl s m g)), σ, nx)
        | false => none
      | _ => none
    | _, _, _ => none
  | .mm isMax xs => match xs with
    | x :: xs => match ev x with
      | .c (.d (.v (.int k a))) => match mmx isMax ev k xs a with
        | some v => some (True, v, σ, nx)
        | none => none
      | _ => none
    | [] => none
  | .call _ _ => none
  | .bad => none
def evo (env : List (Nat × V)) : Operand → V
  | .tmp t => lk env t
  | .const (.bool true) => .c .tru
  | .const (.bool false) => .c .fls
  | .const (.agg xs) => if xs.toList.all one then .agg (xs.toList.map fun x => .d (.v x)) else .unk
  | .const (.tuple _) => .unk
  | .const v => .c (.d (.v v))
  | .func f => .c (.fn f [])
  | .global _ => .unk
def zeroOf (P : Program) (t : TypeId) : Option (List Value) :=
  match P.info? t with
  | some i => match i.zero with
    | some z => if z.cells.toList.all one && z.cells.size == i.size then some z.cells.toList else none
    | none => none
  | none => none
def aggT (P : Program) (t : TypeId) : Option Bool :=
  match P.underlying t with
  | some (.struct _) => some true
  | some (.array _ _) => some true
  | some _ => some false
  | none => none
def sizeT (P : Program) (t : TypeId) : Option Nat := (P.info? t).map (·.size)
def bytesT (P : Program) (t : TypeId) : Option Nat := (P.info? t).map (·.bytes)
def flatInts (P : Program) (fs : List Field) (i : Nat) : Bool :=
  match fs with
  | [] => true
  | f :: fs => f.name != "_" && f.offset == i && (match P.underlying f.type with | some (.int _) => true | _ => false) && (sizeT P f.type == some 1) && flatInts P fs (i + 1)
def lowParts (P : Program) (fs : Array Field) : List (Nat × Operand) → Option (List (Nat × Nat × Operand))
  | [] => some []
  | (i, x) :: ps => do
    let f ← fs[i]?
    let n ← sizeT P f.type
    let r ← lowParts P fs ps
    some ((f.offset, n, x) :: r)
def inOrder : List (Nat × Operand) → Nat → Option (List Operand)
  | [], _ => some []
  | (i, x) :: ps, k => if i = k then (inOrder ps (k + 1)).map (x :: ·) else none
def lowOp' (P : Program) (own : Bool) (o : Oper) : Option LOp :=
  match o.op with
  | .move x => some (.mv x)
  | .assign x => some (.mv x)
  | .nilCheck x => some (.nilc x)
  | .pick c a b => some (.pick c a b)
  | .alloc e => (zeroOf P e).map .alloc
  | .box _ x => some (.box x)
  | .build t parts => do
    let z ← zeroOf P t
    match P.underlying t with
    | some (.struct fs) => if fs.toList.all fun f => (sizeT P f.type).isSome then (lowParts P fs parts.toList).map (.build z) else none
    | some (.array _ e) => do
      let n ← sizeT P e
      some (.build z (parts.toList.map fun (i, x) => (i * n, n, x)))
    | _ => none
  | .buildSlice t len parts => match P.underlying t with
    | some (.slice e) => do
      let s ← sizeT P e
      let z ← zeroOf P e
      let xs ← inOrder parts.toList 0
      if xs.length = len ∧ len * s ≤ 16777216 ∧ 0 < s ∧ z.length = s then some (.lit own e s xs) else none
    | _ => none
  | .load t a => do
    let g ← aggT P t
    let n ← sizeT P t
    if g || n == 1 then some (.load g n a) else none
  | .store t a x => (sizeT P t).map fun n => .store n a x
  | .binOp op t x y _ => match P.underlying t with
    | some (.int _) => some (if own then .binW op x y else .bin op x y)
    | some .bool => (match op with | .eql => some (.eqB false x y) | .neq => some (.eqB true x y) | _ => none)
    | some (.struct fs) => if flatInts P fs.toList 0 && !P.stoodInHeld t && !P.eqGuardType P.depth t then (match op with | .eql => some (.eqA false fs.size x y) | .neq => some (.eqA true fs.size x y) | _ => none) else none
    | _ => none
  | .unOp op _ x => some (.un op x)
  | .convert src dst x => match P.underlying src, P.underlying dst with
    | some (.int _), some (.int k) => some (.conv k x)
    | _, _ => none
  | .makeFunc (.func f) first caps => if first.isEmpty then some (.mkfn f caps.toList) else none
  | .makeSlice t l c => match P.underlying t with
    | some (.slice e) => do
      let s ← sizeT P e
      let b ← bytesT P e
      let z ← zeroOf P e
      match l, c with
      | .tmp a, .tmp b' => if a = b' ∧ 0 < s ∧ 0 < b ∧ z.length = s then some (.make own e s b z (.tmp a)) else none
      | .const (.int k a), .const (.int k' b') => if a = b' ∧ k = k' ∧ 0 < s ∧ 0 < b ∧ z.length = s then some (.make own e s b z (.const (.int k a))) else none
      | _, _ => none
    | _ => none
  | .slice t x lo hi none => match P.underlying t with
    | some (.slice e) => (sizeT P e).map fun s => .slc s x lo hi
    | some .string => some (.slcS x lo hi)
    | _ => none
  | .fieldAddr t x f => match P.underlying t with
    | some (.struct fs) => do
      let fd ← fs[f]?
      let n ← sizeT P fd.type
      if n = 0 then none else some (.fld fd.offset x)
    | _ => none
  | .indexAddr t x i => match P.underlying t with
    | some (.slice e) => (sizeT P e).map fun s => .idx s x i
    | some (.array n e) => (sizeT P e).map fun s => .idxA s n x i
    | _ => none
  | .field t x f => match P.underlying t with
    | some (.struct fs) => do
      let fd ← fs[f]?
      let g ← aggT P fd.type
      let n ← sizeT P fd.type
      some (.part g fd.offset n x)
    | _ => none
  | .index t x i => match P.underlying t with
    | some (.array n e) => do
      let g ← aggT P e
      let s ← sizeT P e
      some (.index g s n x i)
    | some .string => some (.indexS x i)
    | _ => none
  | .extract x i => some (.ext x i)
  | .call c => match c.callee with
    | .value f => some (.call f c.args.toList)
    | .builtin .len => match c.args.toList, c.argTypes.toList with
      | [x], [t] => match P.underlying t with
        | some (.slice _) => some (.len x)
        | some .string => some (.lenS x)
        | _ => none
      | _, _ => none
    | .builtin .append => match c.args.toList, c.argTypes.toList with
      | [x, y], [t, t'] => if t = t' then (match P.underlying t with
        | some (.slice e) => do
          let s ← sizeT P e
          let b ← bytesT P e
          let z ← zeroOf P e
          if 0 < s ∧ 0 < b ∧ z.length = s then some (.append own e s b x y) else none
        | _ => none) else none
      | _, _ => none
    | .builtin .min => some (.mm false c.args.toList)
    | .builtin .max => some (.mm true c.args.toList)
    | _ => none
  | _ => none
/-- A call: which function, with what. -/
def callOf (o : Oper) : Option (Operand × List Operand) :=
  match o.op with
  | .call c => match c.callee with
    | .value f => some (f, c.args.toList)
    | _ => none
  | _ => none
def setCall (o : Oper) : LOp → LOp
  | .call _ _ => match callOf o with
    | some (f, xs) => .call f xs
    | none => .bad
  | l => l
def lowOp (P : Program) (own : Bool) (o : Oper) : LOp := setCall o ((lowOp' P own o).getD .bad)
theorem low_call {P : Program} {own : Bool} {o : Oper} {f : Operand} {xs : List Operand} (h : lowOp P own o = .call f xs) : ∃ c, o.op = .call c ∧ c.callee = .value f ∧ c.args.toList = xs := by
  unfold lowOp setCall at h
  split at h
  · split at h
    · rename_i f' xs' hc
      cases h
      unfold callOf at hc
      split at hc
      · rename_i c hop
        split at hc
        · rename_i hcal; cases hc; exact ⟨c, hop, hcal, rfl⟩
        · cases hc
      · cases hc
    · cases h
  · rename_i l hl
    exact absurd h (hl f xs)
theorem low_xop {P : Program} {own : Bool} {o : Oper} {ev : Operand → V} {σ : Store} {nx : Nat} {r : Res} (h : xop ev σ nx (lowOp P own o) = some r) : xop ev σ nx ((lowOp' P own o).getD .bad) = some r := by
  unfold lowOp setCall at h
  split at h
  · split at h <;> simp [xop] at h
  · exact h
end Go.Pw

namespace Go.Pw
open Go Go.RowKit
inductive LCode where
  | skip
  | region (ops : List LIns)
  | regionD (ops : List LIns) (ms ks : List Nat)
  | seq (a b : LCode)
  | cond (c : Operand) (a b : LCode)
  | block (id : Nat) (c : LCode)
  | loop (c : LCode)
  | rangeFunc (f : Operand) (params : List Tmp) (assign body : LCode)
  | exit (id : Nat)
  | ret
/-- The code holds a range over a function. -/
def LCode.ranges : LCode → Bool
  | .seq a b => a.ranges || b.ranges
  | .cond _ a b => a.ranges || b.ranges
  | .block _ c => c.ranges
  | .loop c => c.ranges
  | .rangeFunc .. => true
  | _ => false
def lowIns (P : Program) (N : Nat) (own : List Nat) (ops : Array Oper) (o : Oper) : Option LIns := do
  let op := lowOp P (match o.dst with | some d => own.contains d | none => false) o
  let g ← match o.guard with
    | none => some none
    | some (j, want) => (((ops[j]?).bind (·.dst)).map fun t => some (t, want))
  if (match o.dst with | some d => decide (d < N) | none => true) then some ⟨o.dst, op, g⟩ else none
def lowList (P : Program) (N : Nat) (own : List Nat) (ops : Array Oper) : List Oper → Option (List LIns)
  | [] => some []
  | o :: os => do
    let i ← lowIns P N own ops o
    let r ← lowList P N own ops os
    some (i :: r)
def rdOperand : Operand → List Nat
  | .tmp t => [t]
  | _ => []
def LOp.opnds : LOp → List Operand
  | .mv x => [x]
  | .nilc x => [x]
  | .pick c a b => [c, a, b]
  | .alloc _ => []
  | .box x => [x]
  | .build _ parts => parts.map (·.2.2)
  | .lit _ _ _ parts => parts
  | .load _ _ a => [a]
  | .store _ a x => [a, x]
  | .bin _ x y => [x, y]
  | .binW _ x y => [x, y]
  | .eqA _ _ x y => [x, y]
  | .eqB _ x y => [x, y]
  | .un _ x => [x]
  | .conv _ x => [x]
  | .mkfn _ caps => caps
  | .make _ _ _ _ _ n => [n]
  | .slc _ x lo hi => x :: (lo.toList ++ hi.toList)
  | .slcS x lo hi => x :: (lo.toList ++ hi.toList)
  | .fld _ x => [x]
  | .idx _ x i => [x, i]
  | .idxA _ _ x i => [x, i]
  | .part _ _ _ x => [x]
  | .index _ _ _ x i => [x, i]
  | .indexS x i => [x, i]
  | .ext x _ => [x]
  | .len x => [x]
  | .lenS x => [x]
  | .append _ _ _ _ x y => [x, y]
  | .mm _ xs => xs
  | .call f args => f :: args
  | .bad => []
def LIns.reads (i : LIns) : List Nat := i.op.opnds.flatMap rdOperand ++ (match i.guard with | some (t, _) => [t] | none => [])
def mkMask (M : List Nat) (o : Oper) : Nat :=
  (o.after.toList.filter fun e => Region.binds .any e).foldl (fun m e => m ||| (1 <<< e.on) ||| M.getD e.on 0) 0
def mkMasks : List Oper → List Nat → List Nat
  | [], M => M
  | o :: os, M => mkMasks os (M ++ [mkMask M o])
/-- Operation j must come ahead of k. -/
def ahead (M : List Nat) (j k : Nat) : Bool := (M.getD k 0).testBit j
def backOk : List Oper → Nat → Bool
  | [], _ => true
  | o :: os, k => (o.after.toList.all fun e => !Region.binds .any e || decide (e.on < k)) && backOk os (k + 1)
def ssaPair (p i : LIns) : Bool :=
  (match p.dst with | some d => !(i.reads.contains d) && (i.dst != some d) | none => true) && (match i.dst with | some d => !(p.reads.contains d) | none => true)
def ssaAfter (M : List Nat) (j : Nat) (p : LIns) : Nat → List LIns → Bool
  | _, [] => true
  | k, i :: is => (ahead M j k || ssaPair p i) && ssaAfter M j p (k + 1) is
def ssaAll (M : List Nat) : Nat → List LIns → Bool
  | _, [] => true
  | j, p :: ps => ssaAfter M j p (j + 1) ps && ssaAll M (j + 1) ps
def lowCode (P : Program) (N : Nat) (own : List Nat) : Code → Option LCode
  | .skip => some .skip
  | .region _ ops draw => do
    let l ← lowList P N own ops ops.toList
    if draw then
      let M := mkMasks ops.toList []
      if backOk ops.toList 0 && ssaAll M 0 l then some (.regionD l M (List.range ops.size)) else none
    else some (.region l)
  | .seq a b => do
    let x ← lowCode P N own a
    let y ← lowCode P N own b
    some (.seq x y)
  | .cond c a b => do
    let x ← lowCode P N own a
    let y ← lowCode P N own b
    some (.cond c x y)
  | .block id c => (lowCode P N own c).map (.block id)
  | .loop c => (lowCode P N own c).map .loop
  | .rangeFunc f ps a c => do
    let x ← lowCode P N own a
    let y ← lowCode P N own c
    some (.rangeFunc f ps.toList x y)
  | .exit id => some (.exit id)
  | .ret => some .ret
  | _ => none
end Go.Pw

namespace Go.Pw
open Go Go.RowKit
section
variable {P : Program} {base : Nat} {Γ : Cx} {w : World} {σ : Store} {id : Nat}
def Gives (base : Nat) (Γ : Cx) (w : World) (σ : Store) (id : Nat) (v : V) (σ' : Store) (nx' : Nat) (r : Result Next) : Prop :=
  ∃ u w' Γ', (r = .ok (.value u) w' ∨ (r = .ok .skip w' ∧ u = undef)) ∧ RepV Γ' w' v u ∧ StoreOk Γ' w' σ' ∧ CxLe Γ Γ' ∧ Ext base Γ w σ Γ' w' σ' ∧
    (∀ i, i ≠ id → Γ'.ρ i = Γ.ρ i) ∧ ((nx' = id ∧ Γ'.ρ id = Γ.ρ id) ∨ nx' = id + 1)
theorem Gives.same {v : V} {r : Result Next} {u : Value} (h : StoreOk Γ w σ) (hr : r = .ok (.value u) w) (hv : RepV Γ w v u) : Gives base Γ w σ id v σ id r :=
  ⟨u, w, Γ, .inl hr, hv, h, CxLe.refl _, Ext.refl _ _ _ _, fun _ _ => rfl, .inl ⟨rfl, rfl⟩⟩
theorem repD_one {I : Nat → Prop} {d : D} {u : Value} (h : RepD I w d u) : one u = true := by
  cases h with
  | v x h => exact h
  | slE s f A c => rfl
  | sl => rfl
theorem repC_one {c : C} {u : Value} (h : RepC Γ w c u) : one u = true := by
  cases c with
  | d x => exact repD_one h
  | tru => obtain rfl : u = _ := h; rfl
  | fls => obtain rfl : u = _ := h; rfl
  | z => obtain ⟨A, rfl⟩ := h; rfl
  | rp row => obtain ⟨ad, rfl, _⟩ := h; rfl
  | fn f ids => obtain ⟨bs, _, _, rfl⟩ := h; rfl
  | bp id off => obtain ⟨b, _, rfl⟩ := h; rfl
  | yd id => obtain ⟨b, _, rfl⟩ := h; rfl
  | ep id s i j => obtain ⟨b, _, rfl⟩ := h; rfl
  | ms id n =>
    obtain ⟨b, _, h⟩ := h
    rcases h with ⟨_, _, rfl⟩ | ⟨c, _, rfl⟩ <;> rfl
theorem one_cells {u : Value} (h : one u = true) : u.cells = #[u] := by cases u <;> simp_all [one, Value.cells]
theorem one_oneCell' {u : Value} (h : one u = true) : u.oneCell' = true := by cases u <;> simp_all [one, Value.oneCell']
/-- The cells of a represented value. -/
theorem RepV.cells {v : V} {u : Value} {cs : List C} (h : RepV Γ w v u) (hc : vcells v = some cs) :
    u.cells.size = cs.length ∧ (∀ (i : Nat) (c : C), cs[i]? = some c → ∃ x, u.cells[i]? = some x ∧ RepC Γ w c x) ∧ ∀ x ∈ u.cells.toList, one x = true := by
  cases h with
  | c x u h =>
    simp only [vcells, Option.some.injEq] at hc
    subst hc
    have h1 := repC_one h
    rw [one_cells h1]
    refine ⟨rfl, fun i c hc => ?_, fun x hx => ?_⟩
    · cases i with
      | zero => simp at hc; subst hc; exact ⟨u, rfl, h⟩
      | succ i => simp at hc
    · simp at hx; subst hx; exact h1
  | agg cs' us hl h =>
    simp only [vcells, Option.some.injEq] at hc
    subst hc
    refine ⟨hl, fun i c hc => ?_, fun x hx => ?_⟩
    · have hi : i < us.size := by rw [hl]; exact (List.getElem?_eq_some_iff.1 hc).1
      exact ⟨us[i], by simp [Value.cells, hi], h i c _ hc (by simp [hi])⟩
    · obtain ⟨i, hi, rfl⟩ := List.mem_iff_getElem.1 hx
      have hi' : i < us.size := by simpa [Value.cells] using hi
      have hlt : i < cs'.length := by rw [← hl]; exact hi'
      exact repC_one (h i cs'[i] _ (List.getElem?_eq_getElem hlt) (by simp [Value.cells, hi']))
  | tup => simp [vcells] at hc
  | unk => simp [vcells] at hc
theorem run_isAgg {t : TypeId} {g : Bool} (h : aggT P t = some g) : (isAgg t).run P w = .ok g w := by
  unfold aggT at h
  unfold isAgg
  split at h
  · rename_i f hu; simp only [Option.some.injEq] at h; subst h; simp [run_underlying hu]
  · rename_i f hu; simp only [Option.some.injEq] at h; subst h; simp [run_underlying hu]
  · rename_i d h1 h2 hu
    simp only [Option.some.injEq] at h; subst h
    simp only [Sem.run_bind, run_underlying hu, Result.andThen_ok]
    rfl
  · cases h
theorem run_typeInfo' {t : TypeId} {i : TypeInfo} (h : P.info? t = some i) : (typeInfo t).run P w = .ok i w := by simp [typeInfo, h]
theorem run_sizeT {t : TypeId} {n : Nat} (h : sizeT P t = some n) : (sizeOf t).run P w = .ok n w := by
  unfold sizeT at h
  obtain ⟨i, hi, rfl⟩ := Option.map_eq_some_iff.1 h
  simp [sizeOf, run_typeInfo' hi]
theorem zeroOf_spec {t : TypeId} {z : List Value} (h : zeroOf P t = some z) :
    ∃ i zv, P.info? t = some i ∧ i.zero = some zv ∧ zv.cells.toList = z ∧ (∀ x ∈ z, one x = true) ∧ i.size = z.length := by
  unfold zeroOf at h
  split at h
  · rename_i i hi
    split at h
    · rename_i zv hz
      split at h
      · rename_i hc
        simp only [Bool.and_eq_true, List.all_eq_true, beq_iff_eq] at hc
        simp only [Option.some.injEq] at h
        subst h
        exact ⟨i, zv, hi, hz, rfl, hc.1, by rw [← hc.2]; simp⟩
      · cases h
    · cases h
  · cases h
theorem run_zeroValue' {t : TypeId} {i : TypeInfo} {zv : Value} (hi : P.info? t = some i) (hz : i.zero = some zv) : (zeroValue t).run P w = .ok zv w := by
  simp [zeroValue, run_typeInfo' hi, hz]
theorem cell_at {b off : Nat} {xs : Array Value} {t : TypeId} {fr : Nat × Nat} (h : w.heap[b]? = some (.cells xs t fr)) (j : Nat) : w.cell? ((⟨b, off, none⟩ : Addr).add j) = xs[off + j]? := by
  rw [Addr.add_lit]; exact cell_of_row w b (off + j) xs t fr h
theorem add_zero (a : Addr) : a.add 0 = a := by simp [Addr.add]
/-- Loading n cells that are known one by one. -/
theorem run_loadVar_cells {t : TypeId} {g : Bool} {a : Addr} {xs : List Value} (hg : aggT P t = some g) (hn : sizeT P t = some xs.length) (hx : ∀ (j : Nat) u, xs[j]? = some u → w.cell? (a.add j) = some u)
    (h1 : g = false → xs ≠ []) : (loadVar t a).run P w = .ok (if g then .agg xs.toArray else xs.headD undef) w := by
  unfold loadVar
  simp only [Sem.run_bind, run_isAgg hg, Result.andThen_ok]
  cases g with
  | true =>
    simp only [if_true, Sem.run_bind, run_sizeT hn, Result.andThen_ok, run_loadCells_list w a xs hx, Sem.run_pure]
  | false =>
    cases xs with
    | nil => exact absurd rfl (h1 rfl)
    | cons x xs =>
      have := hx 0 x rfl
      rw [add_zero] at this
      simp [this]
end
section
variable {P : Program} {base : Nat} {Γ : Cx} {w : World} {σ : Store} {id : Nat}
/-- What lies at an address, cell by cell: enough values, each representing its abstract cell. -/
theorem values_of {cs : List C} {g : Nat → Option Value} (h : ∀ (j : Nat) (c : C), cs[j]? = some c → ∃ x, g j = some x ∧ RepC Γ w c x) :
    ∃ xs : List Value, xs.length = cs.length ∧ (∀ (j : Nat) u, xs[j]? = some u → g j = some u) ∧ ∀ (j : Nat) c u, cs[j]? = some c → xs[j]? = some u → RepC Γ w c u := by
  induction cs generalizing g with
  | nil => exact ⟨[], rfl, by simp, by simp⟩
  | cons c cs ih =>
    obtain ⟨x, hx, hr⟩ := h 0 c rfl
    obtain ⟨xs, hl, hg, hR⟩ := ih (g := fun j => g (j + 1)) (fun j c hc => h (j + 1) c (by simpa using hc))
    refine ⟨x :: xs, by simp [hl], fun j u hu => ?_, fun j c' u hc hu => ?_⟩
    · cases j with
      | zero => simp at hu; subst hu; exact hx
      | succ j => exact hg j u (by simpa using hu)
    · cases j with
      | zero => simp at hc hu; subst hc; subst hu; exact hr
      | succ j => exact hR j c' u (by simpa using hc) (by simpa using hu)
theorem load_ok {t : TypeId} {g : Bool} {n : Nat} {a : Addr} {cs : List C} {o : Oper} {ρ : Operand → Value} {x : Operand} (ho : o.op = .load t x) (hx : ρ x = .pointer (some a))
    (hg : aggT P t = some g) (hn : sizeT P t = some n) (hst : StoreOk Γ w σ)
    (hc : ∀ (j : Nat) (c : C), cs[j]? = some c → ∃ u, w.cell? (a.add j) = some u ∧ RepC Γ w c u) {v : V}
    (hv : (g = true ∧ n ≤ cs.length ∧ v = .agg (cs.take n)) ∨ (g = false ∧ ∃ c rest, cs = c :: rest ∧ v = .c c ∧ n = 1)) : Gives base Γ w σ id v σ id ((execOp ρ o).run P w) := by
  rcases hv with ⟨rfl, hl, rfl⟩ | ⟨rfl, c, rest, rfl, rfl, hn1⟩
  · obtain ⟨xs, hxl, hxg, hxr⟩ := values_of (Γ := Γ) (w := w) (cs := cs.take n) (g := fun j => w.cell? (a.add j)) (fun j c hj => hc j c (by
      rw [List.getElem?_take] at hj; split at hj
      · exact hj
      · cases hj))
    have hxl' : xs.length = n := by rw [hxl]; simp; omega
    have hrun := run_loadVar_cells (P := P) (w := w) (t := t) (a := a) (xs := xs) hg (by rw [hxl']; exact hn) hxg (by simp)
    refine Gives.same hst (u := .agg xs.toArray) ?_ (.agg _ _ (by simp [hxl]) (fun i c u h1 h2 => hxr i c u h1 (by simpa using h2)))
    simp only [execOp, ho, Sem.run_bind, Instr.loadAt, hx, Instr.sureAddr, Sem.run_pure, Result.andThen_ok, hrun, if_true]
  · obtain ⟨u, hu, hr⟩ := hc 0 c rfl
    subst hn1
    have hrun := run_loadVar_cells (P := P) (w := w) (t := t) (a := a) (xs := [u]) hg hn (fun j u' hj => by
      cases j with
      | zero => simp at hj; subst hj; exact hu
      | succ j => simp at hj) (by simp)
    refine Gives.same hst (u := u) ?_ (.c _ _ hr)
    simp only [execOp, ho, Sem.run_bind, Instr.loadAt, hx, Instr.sureAddr, Sem.run_pure, Result.andThen_ok, hrun]
    rfl
end
end Go.Pw

namespace Go.Pw
open Go Go.RowKit
section
variable {P : Program} {base : Nat} {Γ : Cx} {w : World} {σ σ' : Store} {id nx' : Nat} {o : Oper} {ρ : Operand → Value} {ev : Operand → V} {ob : Prop} {v : V}
theorem RepV.int {k : IntKind} {n : Int} {u : Value} (h : RepV Γ w (vi k n) u) : u = .int k n := by
  cases h with | c x u h => cases h; rfl
theorem RepV.str {b : ByteArray} {u : Value} (h : RepV Γ w (.c (.d (.v (.string b)))) u) : u = .string b := by
  cases h with | c x u h => cases h; rfl
theorem RepV.bool {b : Bool} {u : Value} (h : RepV Γ w (vbl b) u) : u = .bool b := by
  cases h with | c x u h => cases h; rfl
theorem RepV.tru {u : Value} (h : RepV Γ w (.c .tru) u) : u = .bool true := by
  cases h with | c x u h => exact h
theorem RepV.fls {u : Value} (h : RepV Γ w (.c .fls) u) : u = .bool false := by
  cases h with | c x u h => exact h
theorem rep_exact {x : Value} (h : one x = true) : RepV Γ w (.c (.d (.v x))) x := .c _ _ (.v _ h)
theorem rep_int (k : IntKind) (n : Int) : RepV Γ w (vi k n) (.int k n) := rep_exact rfl
theorem rep_bool (b : Bool) : RepV Γ w (vbl b) (.bool b) := rep_exact rfl
theorem op_mv {x : Operand} (ho : o.op = .move x ∨ o.op = .assign x) (hev : ∀ x, RepV Γ w (ev x) (ρ x)) (hst : StoreOk Γ w σ) (hx : xop ev σ id (.mv x) = some (ob, v, σ', nx')) :
    Gives base Γ w σ id v σ' nx' ((execOp ρ o).run P w) := by
  have key : ob = True ∧ v = ev x ∧ σ' = σ ∧ nx' = id := by
    simp only [xop] at hx
    cases hv : ev x <;> rw [hv] at hx <;> simp only [Option.some.injEq, Prod.mk.injEq] at hx <;> (obtain ⟨h1, h2, h3, h4⟩ := hx; exact ⟨h1.symm, h2.symm, h3.symm, h4.symm⟩)
  obtain ⟨_, rfl, rfl, rfl⟩ := key
  refine Gives.same hst (u := ρ x) ?_ (hev x)
  rcases ho with ho | ho <;> simp [execOp, ho]
theorem op_nilc {x : Operand} (ho : o.op = .nilCheck x) (hev : ∀ x, RepV Γ w (ev x) (ρ x)) (hst : StoreOk Γ w σ) (hx : xop ev σ id (.nilc x) = some (ob, v, σ', nx')) :
    Gives base Γ w σ id v σ' nx' ((execOp ρ o).run P w) := by
  have hr := hev x
  simp only [xop] at hx
  split at hx
  · rename_i f l hv
    simp only [Option.some.injEq, Prod.mk.injEq] at hx
    obtain ⟨_, rfl, rfl, rfl⟩ := hx
    rw [hv] at hr
    refine Gives.same hst (u := ρ x) ?_ hr
    cases hr with | c _ _ h => obtain ⟨bs, _, _, hu⟩ := h; simp [execOp, ho, hu]
  · rename_i i off hv
    simp only [Option.some.injEq, Prod.mk.injEq] at hx
    obtain ⟨_, rfl, rfl, rfl⟩ := hx
    rw [hv] at hr
    refine Gives.same hst (u := ρ x) ?_ hr
    cases hr with | c _ _ h => obtain ⟨b, _, hu⟩ := h; simp [execOp, ho, hu, ptr]
  · rename_i row hv
    simp only [Option.some.injEq, Prod.mk.injEq] at hx
    obtain ⟨_, rfl, rfl, rfl⟩ := hx
    rw [hv] at hr
    refine Gives.same hst (u := ρ x) ?_ hr
    cases hr with | c _ _ h => obtain ⟨ad, hu, _⟩ := h; simp [execOp, ho, hu]
  · rename_i i hv
    simp only [Option.some.injEq, Prod.mk.injEq] at hx
    obtain ⟨_, rfl, rfl, rfl⟩ := hx
    rw [hv] at hr
    refine Gives.same hst (u := ρ x) ?_ hr
    cases hr with | c _ _ h => obtain ⟨b, _, hu⟩ := h; simp [execOp, ho, hu]
  · cases hx
theorem op_pick {c a b : Operand} (ho : o.op = .pick c a b) (hev : ∀ x, RepV Γ w (ev x) (ρ x)) (hst : StoreOk Γ w σ) (hx : xop ev σ id (.pick c a b) = some (ob, v, σ', nx')) :
    Gives base Γ w σ id v σ' nx' ((execOp ρ o).run P w) := by
  have hc := hev c
  simp only [xop] at hx
  split at hx
  · rename_i hv
    rw [hv] at hc
    split at hx
    · rename_i y hy
      simp only [Option.some.injEq, Prod.mk.injEq] at hx
      obtain ⟨_, rfl, rfl, rfl⟩ := hx
      refine Gives.same hst (u := ρ a) ?_ (hy ▸ hev a)
      simp [execOp, ho, hc.tru, asBool]
    · cases hx
  · rename_i hv
    rw [hv] at hc
    split at hx
    · rename_i y hy
      simp only [Option.some.injEq, Prod.mk.injEq] at hx
      obtain ⟨_, rfl, rfl, rfl⟩ := hx
      refine Gives.same hst (u := ρ b) ?_ (hy ▸ hev b)
      simp [execOp, ho, hc.fls, asBool]
    · cases hx
  · cases hx
theorem zeros_eq {R : Type} : ∀ (l : List Value) (k : List C → Option R), zeros l k = k (l.map fun x => .d (.v x))
  | [], _ => rfl
  | x :: l, k => by simp [zeros, zeros_eq l]
theorem op_alloc {e : TypeId} {z : List Value} (ho : o.op = .alloc e) (hz : zeroOf P e = some z) (hst : StoreOk Γ w σ) (hid : Γ.ρ id = none) (hbase : base ≤ id)
    (hx : xop ev σ id (.alloc z) = some (ob, v, σ', nx')) : Gives base Γ w σ id v σ' nx' ((execOp ρ o).run P w) := by
  obtain ⟨i, zv, hi, hzv, hzc, h1, hsz⟩ := zeroOf_spec hz
  simp only [xop, zeros_eq, Option.some.injEq, Prod.mk.injEq] at hx
  obtain ⟨_, rfl, rfl, rfl⟩ := hx
  have hb := alloc_box (base := base) hst hid hbase e zv.cells (z.map fun x => .d (.v x)) (by simp [← hzc]) (fun i c hc => by
    simp only [List.getElem?_map, Option.map_eq_some_iff] at hc
    obtain ⟨x, hx, rfl⟩ := hc
    refine ⟨x, by rw [← hzc] at hx; simpa using hx, .v _ (h1 x (List.mem_of_getElem? hx))⟩)
  refine ⟨ptr w.heap.size 0, w.alloc (.cells zv.cells e), Γ.upd id w.heap.size none, .inl ?_, .c _ _ ⟨_, upd_ρ_same, rfl⟩, hb.1, CxLe.upd _ _ _ hid, hb.2, fun i hi => upd_ρ hi, .inr rfl⟩
  simp only [execOp, ho, Sem.run_bind, Instr.alloc, run_zeroValue' hi hzv, Result.andThen_ok, newVar, newRow, run_newObj, Sem.run_pure]
  rfl
theorem op_box {e : TypeId} {x : Operand} (ho : o.op = .box e x) (hev : ∀ x, RepV Γ w (ev x) (ρ x)) (hst : StoreOk Γ w σ) (hid : Γ.ρ id = none) (hbase : base ≤ id)
    (hx : xop ev σ id (.box x) = some (ob, v, σ', nx')) : Gives base Γ w σ id v σ' nx' ((execOp ρ o).run P w) := by
  simp only [xop] at hx
  split at hx
  · rename_i l hl
    simp only [Option.some.injEq, Prod.mk.injEq] at hx
    obtain ⟨_, rfl, rfl, rfl⟩ := hx
    obtain ⟨h1, h2, h3⟩ := (hev x).cells hl
    have hb := alloc_box (base := base) hst hid hbase e (ρ x).cells l h1 h2
    refine ⟨ptr w.heap.size 0, w.alloc (.cells (ρ x).cells e), Γ.upd id w.heap.size none, .inl ?_, .c _ _ ⟨_, upd_ρ_same, rfl⟩, hb.1, CxLe.upd _ _ _ hid, hb.2, fun i hi => upd_ρ hi, .inr rfl⟩
    simp only [execOp, ho, Sem.run_bind, Instr.box, newVar, newRow, run_newObj, Result.andThen_ok, Sem.run_pure]
    rfl
  · cases hx
theorem fold_set : ∀ (l : List Value) (k : Nat) (off : Nat) (cs : Array Value), (l.zipIdx k).foldl (fun cs (c, j) => cs.setIfInBounds (off + j) c) cs = (l.zipIdx (off + k)).foldl (fun cs (c, j) => cs.setIfInBounds j c) cs
  | [], _, _, _ => rfl
  | x :: l, k, off, cs => by simp only [List.zipIdx_cons, List.foldl_cons]; rw [fold_set l (k + 1) off]; rfl
theorem fold_set_get : ∀ (l : List Value) (off : Nat) (cs : Array Value) (i : Nat), off + l.length ≤ cs.size →
    ((l.zipIdx off).foldl (fun cs (c, j) => cs.setIfInBounds j c) cs)[i]? = if off ≤ i ∧ i < off + l.length then l[i - off]? else cs[i]?
  | [], off, cs, i, _ => by simp; intro h1 h2; omega
  | x :: l, off, cs, i, h => by
    simp only [List.zipIdx_cons, List.foldl_cons]
    simp only [List.length_cons] at h
    rw [fold_set_get l (off + 1) _ i (by simp; omega)]
    by_cases h1 : off + 1 ≤ i ∧ i < off + 1 + l.length
    · rw [if_pos h1, if_pos (by simp; omega), show i - off = (i - (off + 1)) + 1 by omega]; simp
    · rw [if_neg h1]
      by_cases h2 : i = off
      · subst h2; rw [if_pos (by simp)]; simp [Array.getElem?_setIfInBounds]; omega
      · rw [if_neg (by simp; omega), Array.getElem?_setIfInBounds_ne (Ne.symm h2)]
theorem fold_set_size : ∀ (l : List (Value × Nat)) (cs : Array Value), (l.foldl (fun cs (c, j) => cs.setIfInBounds j c) cs).size = cs.size
  | [], _ => rfl
  | (x, j) :: l, cs => by simp only [List.foldl_cons]; rw [fold_set_size l]; simp
/-- Parts put into cells, on both sides. -/
theorem fill_bld {place : Nat → Option (Nat × Nat)} : ∀ (ps : List (Nat × Operand)) (lp : List (Nat × Nat × Operand)) (us : Array Value) (cs : List C) {R : Type} (k : List C → Option R) (r : R),
    (∀ x, RepV Γ w (ev x) (ρ x)) → lp.length = ps.length → (∀ (j i off n : Nat) (x y : Operand), ps[j]? = some (i, x) → lp[j]? = some (off, n, y) → y = x ∧ place i = some (off, n)) →
    us.size = cs.length → (∀ (i : Nat) c u, cs[i]? = some c → us[i]? = some u → RepC Γ w c u) →
    bld ev lp cs k = some r → ∃ us' cs', Instr.fill place us (ps.map fun (i, x) => (i, ρ x)) = some us' ∧ us'.size = cs'.length ∧ (∀ (i : Nat) c u, cs'[i]? = some c → us'[i]? = some u → RepC Γ w c u) ∧ k cs' = some r
  | [], [], us, cs, R, k, r, _, _, _, hl, hr, hb => ⟨us, cs, rfl, hl, hr, hb⟩
  | [], _ :: _, _, _, _, _, _, _, h, _, _, _, _ => by simp at h
  | _ :: _, [], _, _, _, _, _, _, h, _, _, _, _ => by simp at h
  | (i, x) :: ps, (off, n, y) :: lp, us, cs, R, k, r, hev, hlen, hp, hl, hr, hb => by
    obtain ⟨rfl, hpl⟩ := hp 0 i off n x y rfl rfl
    simp only [bld] at hb
    split at hb
    · rename_i l hvc
      split at hb
      · rename_i h1 h2
        have h1 := Nat.eq_of_beq_eq_true h1
        have h2 := Nat.le_of_ble_eq_true h2
        rw [frc_eq] at hb
        obtain ⟨hc1, hc2, hc3⟩ := (hev y).cells hvc
        have hus : off + (ρ y).cells.size ≤ us.size := by rw [hc1, hl]; omega
        have hfill : Instr.fill place us (((i, y) :: ps).map fun (i, x) => (i, ρ x)) =
            Instr.fill place ((ρ y).cells.zipIdx.foldl (fun cs (c, j) => cs.setIfInBounds (off + j) c) us) (ps.map fun (i, x) => (i, ρ x)) := by
          simp only [List.map_cons, Instr.fill, hpl]
          rw [if_neg (by simp; constructor <;> omega)]
        have harr : (ρ y).cells.zipIdx.foldl (fun cs (c, j) => cs.setIfInBounds (off + j) c) us = ((ρ y).cells.toList.zipIdx off).foldl (fun cs (c, j) => cs.setIfInBounds j c) us := by
          rw [← Array.foldl_toList, Array.toList_zipIdx, fold_set]; simp
        rw [hfill, harr]
        refine fill_bld ps lp _ (putC cs off l) k r hev (by simpa using hlen) (fun j i off n x y h1 h2 => hp (j + 1) i off n x y (by simpa using h1) (by simpa using h2)) ?_ ?_ hb
        · rw [fold_set_size, putC_length, hl]
        · intro q c u hc hu
          rw [putC_eq cs off l (by omega)] at hc
          rw [fold_set_get _ _ _ _ (by simpa using hus)] at hu
          by_cases hq : off ≤ q ∧ q < off + l.length
          · rw [if_pos (by simp [hc1]; omega)] at hu
            rw [List.append_assoc, List.getElem?_append_right (by simp; omega), List.getElem?_append_left (by simp; omega)] at hc
            have e : q - (cs.take off).length = q - off := by simp; omega
            rw [e] at hc
            obtain ⟨x, hx, hrr⟩ := hc2 _ _ hc
            have : (ρ y).cells.toList[q - off]? = some x := by simpa using hx
            rw [this] at hu; cases hu
            exact hrr
          · rw [if_neg (by simp [hc1]; omega)] at hu
            refine hr q c u ?_ hu
            by_cases hlt : q < off
            · rw [List.append_assoc, List.getElem?_append_left (by simp; omega), List.getElem?_take, if_pos hlt] at hc
              exact hc
            · rw [List.getElem?_append_right (by simp; omega), List.getElem?_drop] at hc
              rw [← hc]; congr 1; simp; omega
      · cases hb
    · cases hb
theorem run_placesL : ∀ (l : List Field), (∀ f ∈ l, (sizeT P f.type).isSome = true) →
    ∃ places : List (Nat × Nat), (l.mapM (fun f => do pure (f.offset, ← sizeOf f.type)) : Sem (List (Nat × Nat))).run P w = .ok places w ∧
      ∀ (i : Nat) (f : Field) (n : Nat), l[i]? = some f → sizeT P f.type = some n → places[i]? = some (f.offset, n)
  | [], _ => ⟨[], by simp, by simp⟩
  | f :: l, h => by
    obtain ⟨ps, hr, hp⟩ := run_placesL l (fun f hf => h f (List.mem_cons_of_mem _ hf))
    obtain ⟨n, hn⟩ := Option.isSome_iff_exists.1 (h f (List.mem_cons_self))
    refine ⟨(f.offset, n) :: ps, by
      rw [List.mapM_cons]
      simp only [Sem.run_bind, run_sizeT hn, Result.andThen_ok, Sem.run_pure, hr], fun i g m hg hm => ?_⟩
    cases i with
    | zero => simp at hg; subst hg; rw [hn] at hm; cases hm; rfl
    | succ i => exact hp i g m (by simpa using hg) hm
theorem run_places (fs : Array Field) (h : ∀ f ∈ fs.toList, (sizeT P f.type).isSome = true) :
    ∃ places : Array (Nat × Nat), (fs.mapM (fun f => do pure (f.offset, ← sizeOf f.type)) : Sem (Array (Nat × Nat))).run P w = .ok places w ∧
      ∀ (i : Nat) (f : Field) (n : Nat), fs[i]? = some f → sizeT P f.type = some n → places[i]? = some (f.offset, n) := by
  obtain ⟨ps, hr, hp⟩ := run_placesL (P := P) (w := w) fs.toList h
  refine ⟨ps.toArray, ?_, fun i f n hf hn => by simpa using hp i f n (by simpa using hf) hn⟩
  rw [Array.mapM_eq_mapM_toList, Sem.run_map, hr]
  rfl
theorem op_build {t : TypeId} {parts : Array (Nat × Operand)} {z : List Value} {lp : List (Nat × Nat × Operand)} (ho : o.op = .build t parts) (hz : zeroOf P t = some z)
    (hlp : (∃ fs, P.underlying t = some (.struct fs) ∧ (∀ f ∈ fs.toList, (sizeT P f.type).isSome = true) ∧ lowParts P fs parts.toList = some lp) ∨ (∃ m e n, P.underlying t = some (.array m e) ∧ sizeT P e = some n ∧ lp = parts.toList.map fun (i, x) => (i * n, n, x)))
    (hev : ∀ x, RepV Γ w (ev x) (ρ x)) (hst : StoreOk Γ w σ) (hx : xop ev σ id (.build z lp) = some (ob, v, σ', nx')) : Gives base Γ w σ id v σ' nx' ((execOp ρ o).run P w) := by
  obtain ⟨i, zv, hi, hzv, hzc, h1, hsz⟩ := zeroOf_spec hz
  simp only [xop, zeros_eq] at hx
  have hzr : ∀ (i : Nat) c u, (z.map fun x => C.d (D.v x))[i]? = some c → zv.cells[i]? = some u → RepC Γ w c u := fun i c u hc hu => by
    simp only [List.getElem?_map, Option.map_eq_some_iff] at hc
    obtain ⟨x, hx, rfl⟩ := hc
    have : zv.cells[i]? = some x := by rw [← hzc] at hx; simpa using hx
    rw [this] at hu; cases hu
    exact .v _ (h1 _ (List.mem_of_getElem? hx))
  have hzl : zv.cells.size = (z.map fun x => C.d (D.v x)).length := by simp [← hzc]
  have hmap : (parts.map fun (i, x) => (i, ρ x)).toList = parts.toList.map fun (i, x) => (i, ρ x) := by simp
  rcases hlp with ⟨fs, hu, hall, hlow⟩ | ⟨m, e, n, hu, hn, rfl⟩
  · -- a struct
    have hplaces : ∀ (l : List (Nat × Operand)) (lp : List (Nat × Nat × Operand)), lowParts P fs l = some lp → lp.length = l.length ∧
        ∀ (j i off n : Nat) (x y : Operand), l[j]? = some (i, x) → lp[j]? = some (off, n, y) → y = x ∧ ∃ f, fs[i]? = some f ∧ f.offset = off ∧ sizeT P f.type = some n := by
      intro l
      induction l with
      | nil => intro lp h; simp [lowParts] at h; subst h; exact ⟨rfl, by simp⟩
      | cons p l ih =>
        obtain ⟨i, x⟩ := p
        intro lp h
        simp only [lowParts, Option.bind_eq_bind, Option.bind_eq_some_iff, Option.some.injEq] at h
        obtain ⟨f, hf, n, hn, r, hr, rfl⟩ := h
        obtain ⟨h1, h2⟩ := ih r hr
        refine ⟨by simp [h1], fun j i' off n' x' y hj hj' => ?_⟩
        cases j with
        | zero => simp at hj hj'; obtain ⟨rfl, rfl⟩ := hj; obtain ⟨rfl, rfl, rfl⟩ := hj'; exact ⟨rfl, f, hf, rfl, hn⟩
        | succ j => exact h2 j i' off n' x' y (by simpa using hj) (by simpa using hj')
    obtain ⟨hlen, hpl⟩ := hplaces _ _ hlow
    -- the places, as the machine reckons them, wherever they are asked for
    obtain ⟨places, hrun, hpp⟩ := run_places (w := w) fs hall
    obtain ⟨us', cs', hfill, hl', hr', hk⟩ := fill_bld (Γ := Γ) (w := w) (ev := ev) (ρ := ρ) (place := (places[·]?)) parts.toList lp zv.cells _ _ _ hev hlen (fun j i off n x y h1 h2 => by
      obtain ⟨e, f, hf, ho, hs⟩ := hpl j i off n x y h1 h2
      exact ⟨e, by rw [hpp i f n hf hs, ho]⟩) hzl hzr hx
    simp only [Option.some.injEq, Prod.mk.injEq] at hk
    obtain ⟨_, rfl, rfl, rfl⟩ := hk
    refine Gives.same hst (u := .agg us') ?_ (.agg _ _ hl' hr')
    simp only [execOp, ho, Sem.run_bind, Instr.build, run_zeroValue' hi hzv, Result.andThen_ok, run_underlying hu, hrun, hmap, hfill, Sem.run_pure]
  · obtain ⟨us', cs', hfill, hl', hr', hk⟩ := fill_bld (Γ := Γ) (w := w) (ev := ev) (ρ := ρ) (place := fun i => some (i * n, n)) parts.toList _ zv.cells _ _ _ hev (by simp) (fun j i off n' x y h1 h2 => by
      simp only [List.getElem?_map, h1, Option.map_some, Option.some.injEq, Prod.mk.injEq] at h2
      obtain ⟨rfl, rfl, rfl⟩ := h2
      exact ⟨rfl, rfl⟩) hzl hzr hx
    simp only [Option.some.injEq, Prod.mk.injEq] at hk
    obtain ⟨_, rfl, rfl, rfl⟩ := hk
    refine Gives.same hst (u := .agg us') ?_ (.agg _ _ hl' hr')
    simp only [execOp, ho, Sem.run_bind, Instr.build, run_zeroValue' hi hzv, Result.andThen_ok, run_underlying hu, run_sizeT hn, hmap, hfill, Sem.run_pure]
end
end Go.Pw

namespace Go.Pw
open Go Go.RowKit
section
variable {P : Program} {base : Nat} {Γ : Cx} {w : World} {σ σ' : Store} {id nx' : Nat} {o : Oper} {ρ : Operand → Value} {ev : Operand → V} {ob : Prop} {v : V}
theorem toDs_some {R : Type} : ∀ (l : List C) (k : List D → Option R) (r : R), toDs l k = some r → ∃ ds, ds.length = l.length ∧ (∀ (i : Nat) c d, l[i]? = some c → ds[i]? = some d → toD c = some d) ∧ k ds = some r
  | [], k, r, h => ⟨[], rfl, by simp, h⟩
  | c :: l, k, r, h => by
    cases c with
    | d x =>
      obtain ⟨ds, h1, h2, h3⟩ := toDs_some l _ r h
      refine ⟨x :: ds, by simp [h1], fun i c d hc hd => ?_, h3⟩
      cases i with
      | zero => simp at hc hd; subst hc; subst hd; rfl
      | succ i => exact h2 i c d (by simpa using hc) (by simpa using hd)
    | tru =>
      obtain ⟨ds, h1, h2, h3⟩ := toDs_some l _ r h
      refine ⟨_ :: ds, by simp [h1], fun i c d hc hd => ?_, h3⟩
      cases i with
      | zero => simp at hc hd; subst hc; subst hd; rfl
      | succ i => exact h2 i c d (by simpa using hc) (by simpa using hd)
    | fls =>
      obtain ⟨ds, h1, h2, h3⟩ := toDs_some l _ r h
      refine ⟨_ :: ds, by simp [h1], fun i c d hc hd => ?_, h3⟩
      cases i with
      | zero => simp at hc hd; subst hc; subst hd; rfl
      | succ i => exact h2 i c d (by simpa using hc) (by simpa using hd)
    | _ => simp [toDs] at h
theorem toD_rep {c : C} {d : D} {u : Value} (h : toD c = some d) (hr : RepC Γ w c u) : RepD Γ.I w d u := by
  cases c with
  | d x => simp only [toD, Option.some.injEq] at h; subst h; exact hr
  | tru => simp only [toD, Option.some.injEq] at h; subst h; obtain rfl : u = _ := hr; exact .v _ rfl
  | fls => simp only [toD, Option.some.injEq] at h; subst h; obtain rfl : u = _ := hr; exact .v _ rfl
  | _ => simp [toD] at h
theorem op_load {t : TypeId} {x : Operand} {g : Bool} {n : Nat} (ho : o.op = .load t x) (hg : aggT P t = some g) (hn : sizeT P t = some n) (hg1 : (g || n == 1) = true) (hev : ∀ x, RepV Γ w (ev x) (ρ x)) (hst : StoreOk Γ w σ)
    (hx : xop ev σ id (.load g n x) = some (ob, v, σ', nx')) (hob : ob) : Gives base Γ w σ id v σ' nx' ((execOp ρ o).run P w) := by
  have hr := hev x
  simp only [xop] at hx
  have n1 : g = false → n = 1 := fun h => by subst h; simpa using hg1
  split at hx
  · -- a box
    rename_i i off hv
    rw [hv] at hr
    cases hr with | c _ u hr =>
    obtain ⟨b, hb, hu⟩ := hr
    split at hx
    · rename_i cs hgt
      obtain ⟨b', hb', _, xs, ty, hh, hsz, hcs⟩ := hst.ok i _ hgt
      rw [hb] at hb'; cases hb'
      have hc : ∀ (j : Nat) (c : C), (cs.drop off)[j]? = some c → ∃ u, w.cell? ((⟨b, off, none⟩ : Addr).add j) = some u ∧ RepC Γ w c u := fun j c hj => by
        rw [cell_at hh]; exact hcs (off + j) c (by rw [List.getElem?_drop] at hj; exact hj)
      cases g with
      | true =>
        obtain ⟨hl, hk⟩ := tkc_some _ _ _ _ hx
        simp only [Option.some.injEq, Prod.mk.injEq] at hk
        obtain ⟨_, rfl, rfl, rfl⟩ := hk
        exact load_ok ho hu hg hn hst hc (.inl ⟨rfl, hl, rfl⟩)
      | false =>
        simp only at hx
        split at hx
        · rename_i c rest hd
          simp only [Option.some.injEq, Prod.mk.injEq] at hx
          obtain ⟨_, rfl, rfl, rfl⟩ := hx
          rw [hd] at hc
          exact load_ok ho hu hg hn hst hc (.inr ⟨rfl, c, rest, rfl, rfl, n1 rfl⟩)
        · cases hx
    · cases hx
  · rename_i row hv
    rw [hv] at hr
    cases hr with | c _ u hr =>
    obtain ⟨ad, hu, _, hrow⟩ := hr
    have hc : ∀ (j : Nat) (c : C), (row.map C.d)[j]? = some c → ∃ u, w.cell? (ad.add j) = some u ∧ RepC Γ w c u := fun j c hj => by
      simp only [List.getElem?_map, Option.map_eq_some_iff] at hj
      obtain ⟨d, hd, rfl⟩ := hj
      exact hrow j d hd
    cases g with
    | true =>
      obtain ⟨hl, hk⟩ := tkd_some _ _ _ _ hx
      simp only [Option.some.injEq, Prod.mk.injEq] at hk
      obtain ⟨_, rfl, rfl, rfl⟩ := hk
      exact load_ok ho hu hg hn hst hc (.inl ⟨rfl, by simpa using hl, by rw [List.map_take]⟩)
    | false =>
      simp only at hx
      split at hx
      · rename_i d rest
        simp only [Option.some.injEq, Prod.mk.injEq] at hx
        obtain ⟨_, rfl, rfl, rfl⟩ := hx
        exact load_ok ho hu hg hn hst hc (.inr ⟨rfl, .d d, rest.map C.d, rfl, rfl, n1 rfl⟩)
      · cases hx
  · -- an owned row's element
    rename_i i s ii jj hv
    rw [hv] at hr
    cases hr with | c _ u hr =>
    obtain ⟨b, hb, hu⟩ := hr
    split at hx
    · rename_i e s' m f fz hgt
      obtain ⟨b', hb', hok⟩ := hst.ok i _ hgt
      rw [hb] at hb'; cases hb'
      split at hx
      · rename_i hs
        have hs := Nat.eq_of_beq_eq_true hs
        subst hs
        have main : ii < m → ∀ (j : Nat) (c : C), (((f ii).drop jj).map C.d)[j]? = some c → ∃ u, w.cell? ((⟨b, ii * s + jj, none⟩ : Addr).add j) = some u ∧ RepC Γ w c u := fun hlt j c hj => by
          rcases hok with ⟨_, h0⟩ | ⟨c0, _, _, _, _, _, _, xs, hh, _, hcell⟩
          · omega
          · simp only [List.getElem?_map, Option.map_eq_some_iff] at hj
            obtain ⟨d, hd, rfl⟩ := hj
            rw [List.getElem?_drop] at hd
            rw [cell_at hh, Nat.add_assoc]
            exact hcell ii (jj + j) d hlt hd
        cases g with
        | true =>
          obtain ⟨hl, hk⟩ := tkd_some _ _ _ _ hx
          simp only [Option.some.injEq, Prod.mk.injEq] at hk
          obtain ⟨rfl, rfl, rfl, rfl⟩ := hk
          exact load_ok ho hu hg hn hst (main hob) (.inl ⟨rfl, by simpa using hl, by rw [List.map_take]⟩)
        | false =>
          simp only at hx
          split at hx
          · rename_i d rest hd
            simp only [Option.some.injEq, Prod.mk.injEq] at hx
            obtain ⟨rfl, rfl, rfl, rfl⟩ := hx
            have hm := main hob
            rw [hd] at hm
            exact load_ok ho hu hg hn hst hm (.inr ⟨rfl, .d d, rest.map C.d, rfl, rfl, n1 rfl⟩)
          · cases hx
      · cases hx
    · cases hx
  · cases hx
theorem op_store {t : TypeId} {a x : Operand} {n : Nat} (ho : o.op = .store t a x) (hn : sizeT P t = some n) (hev : ∀ x, RepV Γ w (ev x) (ρ x)) (hst : StoreOk Γ w σ)
    (hx : xop ev σ id (.store n a x) = some (ob, v, σ', nx')) (hobq : ob) : Gives base Γ w σ id v σ' nx' ((execOp ρ o).run P w) := by
  have hr := hev a
  simp only [xop] at hx
  split at hx
  · rename_i i off hv
    rw [hv] at hr
    cases hr with | c _ u hr =>
    obtain ⟨b, hb, hu⟩ := hr
    split at hx
    · rename_i cs hgt
      obtain ⟨b', hb', hnI, xs, ty, hh, hsz, hcs⟩ := hst.ok i _ hgt
      rw [hb] at hb'; cases hb'
      split at hx
      · rename_i l hvc
        split at hx
        · rename_i h1 h2
          have h1 := Nat.eq_of_beq_eq_true h1
          have h2 := Nat.le_of_ble_eq_true h2
          rw [frc_eq, frs_eq] at hx
          simp only [Option.some.injEq, Prod.mk.injEq] at hx
          obtain ⟨_, rfl, rfl, rfl⟩ := hx
          obtain ⟨hc1, hc2, hc3⟩ := (hev x).cells hvc
          have hrun := run_storeCells_at (P := P) b off ty (ρ x).cells.toList 0 xs w hh (by simp [hc1]; omega) (fun y hy => one_oneCell' (hc3 y hy))
          simp only [Nat.add_zero] at hrun
          generalize hxs : (xs.toList.take off ++ (ρ x).cells.toList ++ xs.toList.drop (off + (ρ x).cells.toList.length)).toArray = xs' at hrun
          have hl : LiveE Γ i (.box cs) := trivial
          have hent : EntOk Γ (w.setRow b xs') i b (.box (putC cs off l)) := by
            refine ⟨hnI, xs', ty, setRow_heap w b xs xs' ty _ hh, ?_, fun q c hc => ?_⟩
            · rw [← hxs, putC_length]; simp [hc1]; omega
            · have hsame : Same Γ.I w (w.setRow b xs') := fun k hI => setRow_other w b k xs' (fun e => hnI (e ▸ hI))
              rw [putC_eq cs off l (by omega)] at hc
              suffices hs : ∃ y, xs'[q]? = some y ∧ RepC Γ w c y by
                obtain ⟨y, hy, hry⟩ := hs
                exact ⟨y, hy, hry.mono (CxLe.refl _) hsame⟩
              rw [← hxs]
              simp only [List.getElem?_toArray]
              by_cases hq : q < off
              · rw [List.append_assoc, List.getElem?_append_left (by simp; omega), List.getElem?_take, if_pos hq] at hc
                rw [List.append_assoc, List.getElem?_append_left (by simp; omega), List.getElem?_take, if_pos hq]
                obtain ⟨y, hy, hry⟩ := hcs q c hc
                exact ⟨y, by simpa using hy, hry⟩
              · by_cases hq2 : q < off + l.length
                · rw [List.append_assoc, List.getElem?_append_right (by simp; omega), List.getElem?_append_left (by simp; omega)] at hc
                  rw [List.append_assoc, List.getElem?_append_right (by simp; omega), List.getElem?_append_left (by simp [hc1]; omega)]
                  have e1 : q - (cs.take off).length = q - off := by simp; omega
                  have e2 : q - (xs.toList.take off).length = q - off := by simp; omega
                  rw [e1] at hc; rw [e2]
                  obtain ⟨y, hy, hry⟩ := hc2 _ c hc
                  exact ⟨y, by simpa using hy, hry⟩
                · rw [List.getElem?_append_right (by simp; omega), List.getElem?_drop] at hc
                  rw [List.getElem?_append_right (by simp [hc1]; omega), List.getElem?_drop]
                  have e1 : off + l.length + (q - (cs.take off ++ l).length) = q := by simp; omega
                  have e2 : off + (ρ x).cells.toList.length + (q - (xs.toList.take off ++ (ρ x).cells.toList).length) = q := by simp [hc1]; omega
                  rw [e1] at hc; rw [e2]
                  obtain ⟨y, hy, hry⟩ := hcs q c hc
                  exact ⟨y, by simpa using hy, hry⟩
          refine ⟨undef, w.setRow b xs', Γ, .inr ⟨?_, rfl⟩, .unk _, hst.modify hgt hb hl (by simp) (fun k _ hk => setRow_other w b k xs' hk) hent, CxLe.refl _,
            Ext.modify (liveId_iff.2 ⟨_, hgt, hl⟩) hb rfl rfl rfl (by simp) (fun k _ hk => setRow_other w b k xs' hk) (fun k hk => live_set hgt hl hk), fun _ _ => rfl, .inl ⟨rfl, rfl⟩⟩
          simp only [execOp, ho, Sem.run_bind, Instr.storeAt, hu, ptr, Instr.sureAddr, Sem.run_pure, Result.andThen_ok, storeVar, run_sizeT hn]
          rw [if_neg (by simp [hc1, h1])]
          rw [hrun]
          rfl
        · cases hx
      · cases hx
    · cases hx
  · rename_i i es ei ej hv
    rw [hv] at hr
    cases hr with | c _ u hr =>
    obtain ⟨b, hb, hu⟩ := hr
    split at hx
    · rename_i e s' m f hgt
      split at hx
      · rename_i l hvc
        obtain ⟨ds, hdl, hds, hx2⟩ := toDs_some _ _ _ hx
        split at hx2
        · rename_i h0 h1 h2
          have h0 := Nat.eq_of_beq_eq_true h0
          have h1 := Nat.eq_of_beq_eq_true h1
          have h2 := Nat.le_of_ble_eq_true h2
          subst h0
          rw [frs_eq] at hx2
          simp only [Option.some.injEq, Prod.mk.injEq] at hx2
          obtain ⟨rfl, rfl, rfl, rfl⟩ := hx2
          have hob : ei < m := hobq
          obtain ⟨b', hb', hent⟩ := hst.ok i _ hgt
          rw [hb] at hb'; cases hb'
          rcases hent with ⟨_, h3⟩ | ⟨c, hκ, _, hnI, hnc, hcm, hlen, xs, hh, hsz, hcs⟩
          · omega
          have hnI := hnI rfl
          obtain ⟨hc1, hc2, hc3⟩ := (hev x).cells hvc
          have hpos : ei * es + ej + l.length ≤ xs.size := by
            rw [hsz, h1]
            have : (ei + 1) * es ≤ c * es := Nat.mul_le_mul_right _ (by omega)
            rw [Nat.add_mul] at this; omega
          have hrun := run_storeCells_at (P := P) b (ei * es + ej) e (ρ x).cells.toList 0 xs w hh (by simp [hc1]; omega) (fun y hy => one_oneCell' (hc3 y hy))
          simp only [Nat.add_zero] at hrun
          generalize hxs : (xs.toList.take (ei * es + ej) ++ (ρ x).cells.toList ++ xs.toList.drop (ei * es + ej + (ρ x).cells.toList.length)).toArray = xs' at hrun
          have hl : LiveE Γ i (.row e es m f false) := ⟨rfl, c, hκ⟩
          have hent : EntOk Γ (w.setRow b xs') i b (.row e es m (setRw f ei ej ds) false) := by
            refine .inr ⟨c, hκ, (fun h => by cases h), fun _ => hnI, hnc, hcm, fun k hk => ?_, xs', setRow_heap w b xs xs' e _ hh, ?_, fun k q d hk hd => ?_⟩
            · unfold setRw
              split
              · rename_i hq; rw [putD_len]; exact hlen ei hob
              · exact hlen k hk
            · rw [← hxs]; simp [hc1]; omega
            · have hsame : Same Γ.I w (w.setRow b xs') := fun k hI => setRow_other w b k xs' (fun e => hnI (e ▸ hI))
              suffices hs : ∃ y, xs'[k * es + q]? = some y ∧ RepD Γ.I w d y by
                obtain ⟨y, hy, hry⟩ := hs
                exact ⟨y, hy, hry.mono (fun _ h => h) hsame⟩
              rw [← hxs]
              simp only [List.getElem?_toArray]
              have hxl : xs.toList.length = xs.size := by simp
              have hcl : (ρ x).cells.toList.length = l.length := by simp [hc1]
              -- where cell q of row k lies
              have hold : ∀ d, (f k)[q]? = some d → (k * es + q < ei * es + ej ∨ ei * es + ej + l.length ≤ k * es + q) → ∃ y, (xs.toList.take (ei * es + ej) ++ (ρ x).cells.toList ++ xs.toList.drop (ei * es + ej + (ρ x).cells.toList.length))[k * es + q]? = some y ∧ RepD Γ.I w d y := fun d hd hor => by
                obtain ⟨y, hy, hry⟩ := hcs k q d hk hd
                refine ⟨y, ?_, hry⟩
                rcases hor with hor | hor
                · rw [List.append_assoc, List.getElem?_append_left (by simp; omega), List.getElem?_take, if_pos hor]; simpa using hy
                · rw [List.getElem?_append_right (by simp; omega), List.getElem?_drop]
                  have e1 : ei * es + ej + (ρ x).cells.toList.length + (k * es + q - (xs.toList.take (ei * es + ej) ++ (ρ x).cells.toList).length) = k * es + q := by simp [hc1]; omega
                  rw [e1]; simpa using hy
              have hq : q < es := by
                have := (List.getElem?_eq_some_iff.1 hd).1
                have h5 : (setRw f ei ej ds k).length = es := by
                  unfold setRw
                  split
                  · rw [putD_len]; exact hlen ei hob
                  · exact hlen k hk
                omega
              unfold setRw at hd
              split at hd
              · rename_i hke
                have hke := Nat.eq_of_beq_eq_true hke
                subst hke
                rw [putD_get _ _ _ (by rw [hlen k hk]; omega)] at hd
                split at hd
                · rename_i hin
                  obtain ⟨y, hy, hry⟩ := hc2 (q - ej) (l[q - ej]'(by omega)) (List.getElem?_eq_getElem _)
                  refine ⟨y, ?_, toD_rep (hds _ _ _ (List.getElem?_eq_getElem _) hd) hry⟩
                  rw [List.append_assoc, List.getElem?_append_right (by simp; omega), List.getElem?_append_left (by simp [hc1]; omega)]
                  have e2 : k * es + q - (xs.toList.take (k * es + ej)).length = q - ej := by simp; omega
                  rw [e2]; simpa using hy
                · rename_i hout
                  exact hold d hd (by omega)
              · rename_i hke
                have hke : k ≠ ei := fun h => by subst h; rw [Nat.beq_refl] at hke; cases hke
                refine hold d hd ?_
                rcases Nat.lt_or_gt_of_ne hke with h | h
                · left
                  have : (k + 1) * es ≤ ei * es := Nat.mul_le_mul_right _ h
                  rw [Nat.add_mul] at this; omega
                · right
                  have : (ei + 1) * es ≤ k * es := Nat.mul_le_mul_right _ h
                  rw [Nat.add_mul] at this; omega
          refine ⟨undef, w.setRow b xs', Γ, .inr ⟨?_, rfl⟩, .unk _, hst.modify hgt hb hl (by simp) (fun k _ hk => setRow_other w b k xs' hk) hent, CxLe.refl _,
            Ext.modify (liveId_iff.2 ⟨_, hgt, hl⟩) hb rfl rfl rfl (by simp) (fun k _ hk => setRow_other w b k xs' hk) (fun k hk => live_set hgt hl hk), fun _ _ => rfl, .inl ⟨rfl, rfl⟩⟩
          simp only [execOp, ho, Sem.run_bind, Instr.storeAt, hu, ptr, Instr.sureAddr, Sem.run_pure, Result.andThen_ok, storeVar, run_sizeT hn]
          rw [if_neg (by simp [hc1, h1])]
          rw [hrun]
          rfl
        · cases hx2
      · cases hx
    · cases hx
  · cases hx
theorem op_fld {t : TypeId} {x : Operand} {f : Nat} {fs : Array Field} {fd : Field} {n : Nat} (ho : o.op = .fieldAddr t x f) (hu : P.underlying t = some (.struct fs)) (hf : fs[f]? = some fd) (hn : sizeT P fd.type = some n) (hn0 : n ≠ 0)
    (hev : ∀ x, RepV Γ w (ev x) (ρ x)) (hst : StoreOk Γ w σ) (hx : xop ev σ id (.fld fd.offset x) = some (ob, v, σ', nx')) : Gives base Γ w σ id v σ' nx' ((execOp ρ o).run P w) := by
  have hr := hev x
  have hrun : ∀ ad, ρ x = .pointer (some ad) → (execOp ρ o).run P w = .ok (.value (.pointer (some (ad.add fd.offset)))) w := fun ad hx => by
    simp only [execOp, ho, Sem.run_bind, Instr.fieldAt, run_underlying hu, Result.andThen_ok, hf, hx, Instr.sureAddr, Sem.run_pure, fieldPlace, run_sizeT hn, if_neg hn0]
  simp only [xop] at hx
  split at hx
  · rename_i i off hv
    rw [hv] at hr
    cases hr with | c _ u hr =>
    obtain ⟨b, hb, hu⟩ := hr
    simp only [Option.some.injEq, Prod.mk.injEq] at hx
    obtain ⟨_, rfl, rfl, rfl⟩ := hx
    refine Gives.same hst (u := ptr b (off + fd.offset)) ?_ (.c _ _ ⟨b, hb, rfl⟩)
    rw [hrun _ hu, Addr.add_lit]; rfl
  · rename_i row hv
    rw [hv] at hr
    cases hr with | c _ u hr =>
    obtain ⟨ad, hu, hI, hrow⟩ := hr
    simp only [Option.some.injEq, Prod.mk.injEq] at hx
    obtain ⟨_, rfl, rfl, rfl⟩ := hx
    refine Gives.same hst (u := .pointer (some (ad.add fd.offset))) (hrun _ hu) (.c _ _ ⟨_, rfl, by rw [block_add]; exact hI, fun j d hd => ?_⟩)
    rw [List.getElem?_drop] at hd
    rw [add_add]
    exact hrow _ d hd
  · rename_i i s ii jj hv
    rw [hv] at hr
    cases hr with | c _ u hr =>
    obtain ⟨b, hb, hu⟩ := hr
    simp only [Option.some.injEq, Prod.mk.injEq] at hx
    obtain ⟨_, rfl, rfl, rfl⟩ := hx
    refine Gives.same hst (u := ptr b (ii * s + (jj + fd.offset))) ?_ (.c _ _ ⟨b, hb, rfl⟩)
    rw [hrun _ hu, Addr.add_lit, Nat.add_assoc]; rfl
  · cases hx
theorem op_idx {t e : TypeId} {x i : Operand} {s : Nat} (ho : o.op = .indexAddr t x i) (hu : P.underlying t = some (.slice e)) (hn : sizeT P e = some s)
    (hev : ∀ x, RepV Γ w (ev x) (ρ x)) (hst : StoreOk Γ w σ) (hx : xop ev σ id (.idx s x i) = some (ob, v, σ', nx')) (hob : ob) : Gives base Γ w σ id v σ' nx' ((execOp ρ o).run P w) := by
  have hr := hev x
  have hri := hev i
  have hrun : ∀ ad n c k a, ρ x = .slice (some ad) n c → ρ i = .int k a → 0 ≤ a → a < n → (execOp ρ o).run P w = .ok (.value (.pointer (some (ad.add (a.toNat * s))))) w := fun ad n c k a h1 h2 h3 h4 => by
    simp only [execOp, ho, Sem.run_bind, Instr.indexAt, h2, asIntOf, Sem.run_pure, Result.andThen_ok, run_underlying hu, h1]
    rw [if_pos ⟨h3, h4⟩]
    simp [run_sizeT hn]
  simp only [xop] at hx
  split at hx
  · rename_i s' n f k a hvx hvi
    rw [hvx] at hr; rw [hvi] at hri
    split at hx
    · rename_i hs
      have hs := Nat.eq_of_beq_eq_true hs
      subst hs
      simp only [Option.some.injEq, Prod.mk.injEq] at hx
      obtain ⟨rfl, rfl, rfl, rfl⟩ := hx
      cases hr with | c _ u hr =>
      have hri := hri.int
      obtain ⟨h0, hlt⟩ := hob
      generalize hux : ρ x = ux at hr
      cases hr with
      | slE s f A c => simp at hlt; omega
      | sl s n f ad c U hnc hI hs hc hrr =>
        have ha : a.toNat < n := by omega
        refine Gives.same hst (hrun ad n c k a hux hri h0 hlt) (.c _ _ ⟨_, rfl, by rw [block_add]; exact hI, fun j d hd => ⟨U a.toNat j, ?_, hrr _ _ _ ha hd⟩⟩)
        rw [add_add]; exact hc _ _ _ ha hd
    · cases hx
  · rename_i i' n k a hvx hvi
    rw [hvx] at hr; rw [hvi] at hri
    simp only [Option.some.injEq, Prod.mk.injEq] at hx
    obtain ⟨rfl, rfl, rfl, rfl⟩ := hx
    cases hr with | c _ u hr =>
    have hri := hri.int
    obtain ⟨h0, hlt⟩ := hob
    obtain ⟨b, hb, hu'⟩ := hr
    rcases hu' with ⟨rfl, _, _⟩ | ⟨c, _, hux⟩
    · simp at hlt; omega
    · refine Gives.same hst (u := ptr b (a.toNat * s + 0)) ?_ (.c _ _ ⟨b, hb, rfl⟩)
      rw [hrun _ _ _ _ _ hux hri h0 hlt, Addr.add_lit]; simp [ptr]
  · cases hx
theorem op_idxA {t e : TypeId} {m : Nat} {x i : Operand} {s : Nat} (ho : o.op = .indexAddr t x i) (hu : P.underlying t = some (.array m e)) (hn : sizeT P e = some s)
    (hev : ∀ x, RepV Γ w (ev x) (ρ x)) (hst : StoreOk Γ w σ) (hx : xop ev σ id (.idxA s m x i) = some (ob, v, σ', nx')) (hob : ob) : Gives base Γ w σ id v σ' nx' ((execOp ρ o).run P w) := by
  have hr := hev x
  have hri := hev i
  have hrun : ∀ ad k a, ρ x = .pointer (some ad) → ρ i = .int k a → 0 ≤ a → a < m → (execOp ρ o).run P w = .ok (.value (.pointer (some (ad.add (a.toNat * s))))) w := fun ad k a h1 h2 h3 h4 => by
    simp only [execOp, ho, Sem.run_bind, Instr.indexAt, h2, asIntOf, Sem.run_pure, Result.andThen_ok, run_underlying hu, h1, Instr.sureAddr]
    rw [if_pos ⟨h3, h4⟩]
    simp [run_sizeT hn]
  simp only [xop] at hx
  split at hx
  · rename_i i' off k a hvx hvi
    rw [hvx] at hr; rw [hvi] at hri
    cases hr with | c _ u hr =>
    obtain ⟨b, hb, hux⟩ := hr
    simp only [Option.some.injEq, Prod.mk.injEq] at hx
    obtain ⟨rfl, rfl, rfl, rfl⟩ := hx
    refine Gives.same hst (u := ptr b (off + a.toNat * s)) ?_ (.c _ _ ⟨b, hb, rfl⟩)
    rw [hrun _ _ _ hux hri.int hob.1 hob.2, Addr.add_lit]; rfl
  · rename_i row k a hvx hvi
    rw [hvx] at hr; rw [hvi] at hri
    cases hr with | c _ u hr =>
    obtain ⟨ad, hux, hI, hrow⟩ := hr
    simp only [Option.some.injEq, Prod.mk.injEq] at hx
    obtain ⟨rfl, rfl, rfl, rfl⟩ := hx
    refine Gives.same hst (hrun _ _ _ hux hri.int hob.1 hob.2) (.c _ _ ⟨_, rfl, by rw [block_add]; exact hI, fun j d hd => ?_⟩)
    rw [List.getElem?_drop] at hd
    rw [add_add]
    exact hrow _ d hd
  · cases hx
end
end Go.Pw

namespace Go.Pw
open Go Go.RowKit
section
variable {P : Program} {base : Nat} {Γ : Cx} {w : World} {σ σ' : Store} {id nx' : Nat} {o : Oper} {ρ : Operand → Value} {ev : Operand → V} {ob : Prop} {v : V}
theorem wrap64_id {n : Int} (h : R64 n) : IntKind.i64.wrap n = n := IntWalk.i64_in n h
theorem arith_ok {op : BinOp} {k : IntKind} {a b : Int} {p : Prop} {r : V} {t : TypeId} (h : arith op k a b = some (p, r)) (hp : p) :
    ∃ u, (binOp op t (.int k a) (.int k b)).run P w = .ok u w ∧ RepV Γ w r u := by
  cases op <;> simp only [arith] at h
  case add =>
    split at h <;> simp only [Option.some.injEq, Prod.mk.injEq] at h <;> obtain ⟨rfl, rfl⟩ := h
    · exact ⟨_, by rw [binOp_add]; simp [Op.intArith, wrap64_id hp], rep_int _ _⟩
    · exact ⟨_, by rw [binOp_add]; simp [Op.intArith], rep_int _ _⟩
  case sub =>
    split at h <;> simp only [Option.some.injEq, Prod.mk.injEq] at h <;> obtain ⟨rfl, rfl⟩ := h
    · exact ⟨_, by rw [binOp_sub]; simp [Op.intArith, wrap64_id hp], rep_int _ _⟩
    · exact ⟨_, by rw [binOp_sub]; simp [Op.intArith], rep_int _ _⟩
  case mul =>
    split at h <;> simp only [Option.some.injEq, Prod.mk.injEq] at h <;> obtain ⟨rfl, rfl⟩ := h
    · exact ⟨_, by rw [binOp_mul]; simp [Op.intArith, wrap64_id hp], rep_int _ _⟩
    · exact ⟨_, by rw [binOp_mul]; simp [Op.intArith], rep_int _ _⟩
  case quo =>
    split at h <;> simp only [Option.some.injEq, Prod.mk.injEq] at h <;> obtain ⟨rfl, rfl⟩ := h
    · exact ⟨_, by rw [binOp_quo]; simp [Op.intDiv, hp.1, wrap64_id hp.2], rep_int _ _⟩
    · exact ⟨_, by rw [binOp_quo]; simp only [Op.intDiv, if_neg hp]; rfl, rep_int _ _⟩
  case rem =>
    simp only [Option.some.injEq, Prod.mk.injEq] at h; obtain ⟨rfl, rfl⟩ := h
    exact ⟨_, by rw [binOp_rem]; simp only [Op.intDiv, if_neg hp]; rfl, rep_int _ _⟩
  case eql =>
    simp only [Option.some.injEq, Prod.mk.injEq] at h; obtain ⟨rfl, rfl⟩ := h
    exact ⟨_, by rw [binOp_eql]; rfl, by rw [show (a == b) = decide (a = b) from rfl]; exact rep_bool _⟩
  case neq =>
    simp only [Option.some.injEq, Prod.mk.injEq] at h; obtain ⟨rfl, rfl⟩ := h
    exact ⟨_, by rw [binOp_neq]; rfl, by rw [show (a != b) = !decide (a = b) from rfl]; exact rep_bool _⟩
  case lss =>
    simp only [Option.some.injEq, Prod.mk.injEq] at h; obtain ⟨rfl, rfl⟩ := h
    exact ⟨_, by rw [binOp_lss]; rfl, rep_bool _⟩
  case leq =>
    simp only [Option.some.injEq, Prod.mk.injEq] at h; obtain ⟨rfl, rfl⟩ := h
    exact ⟨_, by rw [binOp_leq]; rfl, rep_bool _⟩
  case gtr =>
    simp only [Option.some.injEq, Prod.mk.injEq] at h; obtain ⟨rfl, rfl⟩ := h
    exact ⟨_, by rw [binOp_gtr]; rfl, rep_bool _⟩
  case geq =>
    simp only [Option.some.injEq, Prod.mk.injEq] at h; obtain ⟨rfl, rfl⟩ := h
    exact ⟨_, by rw [binOp_geq]; rfl, rep_bool _⟩
  case and =>
    simp only [Option.some.injEq, Prod.mk.injEq] at h; obtain ⟨rfl, rfl⟩ := h
    exact ⟨_, by rw [binOp_and]; simp [Op.intBits], rep_int _ _⟩
  case or =>
    simp only [Option.some.injEq, Prod.mk.injEq] at h; obtain ⟨rfl, rfl⟩ := h
    exact ⟨_, by rw [binOp_or]; simp [Op.intBits], rep_int _ _⟩
  case xor =>
    simp only [Option.some.injEq, Prod.mk.injEq] at h; obtain ⟨rfl, rfl⟩ := h
    exact ⟨_, by rw [binOp_xor]; simp [Op.intBits], rep_int _ _⟩
  all_goals cases h
theorem binV_ok {op : BinOp} {k k' : IntKind} {a b : Int} {p : Prop} {r : V} {t : TypeId} (h : binV op k a k' b = some (p, r)) (hp : p) :
    ∃ u, (binOp op t (.int k a) (.int k' b)).run P w = .ok u w ∧ RepV Γ w r u := by
  unfold binV at h
  split at h
  · rename_i hs
    cases op <;> simp [isShift] at hs <;> simp only [shiftV, Option.some.injEq, Prod.mk.injEq] at h <;> obtain ⟨rfl, rfl⟩ := h
    · exact ⟨_, by simp only [binOp, Op.shift, if_neg (Int.not_lt.2 hp)]; rfl, rep_int _ _⟩
    · exact ⟨_, by simp only [binOp, Op.shift, if_neg (Int.not_lt.2 hp)]; rfl, rep_int _ _⟩
  · split at h
    · rename_i hk
      have hk := ksame_eq hk
      subst hk
      exact arith_ok h hp
    · cases h
theorem arithW_ok {op : BinOp} {k : IntKind} {a b : Int} {r : V} {t : TypeId} (h : arithW op k a b = some r) :
    ∃ u, (binOp op t (.int k a) (.int k b)).run P w = .ok u w ∧ RepV Γ w r u := by
  cases op <;> simp only [arithW, Option.some.injEq, reduceCtorEq] at h <;> subst h
  · exact ⟨_, by rw [binOp_add]; simp [Op.intArith], rep_int _ _⟩
  · exact ⟨_, by rw [binOp_sub]; simp [Op.intArith], rep_int _ _⟩
  · exact ⟨_, by rw [binOp_mul]; simp [Op.intArith], rep_int _ _⟩
theorem op_bin {op : BinOp} {t yt : TypeId} {x y : Operand} (ho : o.op = .binOp op t x y yt) (hev : ∀ x, RepV Γ w (ev x) (ρ x)) (hst : StoreOk Γ w σ)
    (hx : xop ev σ id (.bin op x y) = some (ob, v, σ', nx')) (hob : ob) : Gives base Γ w σ id v σ' nx' ((execOp ρ o).run P w) := by
  have h1 := hev x
  have h2 := hev y
  simp only [xop] at hx
  split at hx
  · rename_i k a k' b hvx hvy
    rw [hvx] at h1; rw [hvy] at h2
    split at hx
    · rename_i p r ha
      simp only [Option.some.injEq, Prod.mk.injEq] at hx
      obtain ⟨rfl, rfl, rfl, rfl⟩ := hx
      obtain ⟨u, hu, hr⟩ := binV_ok (P := P) (Γ := Γ) (w := w) (t := t) ha hob
      refine Gives.same hst (u := u) ?_ hr
      simp only [execOp, ho, Sem.run_bind, h1.int, h2.int, eqGuard_at_int, Sem.run_pure, Result.andThen_ok, hu]
    · cases hx
  · cases hx
theorem op_binW {op : BinOp} {t yt : TypeId} {x y : Operand} (ho : o.op = .binOp op t x y yt) (hev : ∀ x, RepV Γ w (ev x) (ρ x)) (hst : StoreOk Γ w σ)
    (hx : xop ev σ id (.binW op x y) = some (ob, v, σ', nx')) : Gives base Γ w σ id v σ' nx' ((execOp ρ o).run P w) := by
  have h1 := hev x
  have h2 := hev y
  simp only [xop] at hx
  split at hx
  · rename_i k a k' b hvx hvy
    rw [hvx] at h1; rw [hvy] at h2
    split at hx
    · rename_i hk
      have hk := ksame_eq hk
      subst hk
      split at hx
      · rename_i r ha
        simp only [Option.some.injEq, Prod.mk.injEq] at hx
        obtain ⟨rfl, rfl, rfl, rfl⟩ := hx
        obtain ⟨u, hu, hr⟩ := arithW_ok (P := P) (Γ := Γ) (w := w) (t := t) ha
        refine Gives.same hst (u := u) ?_ hr
        simp only [execOp, ho, Sem.run_bind, h1.int, h2.int, eqGuard_at_int, Sem.run_pure, Result.andThen_ok, hu]
      · cases hx
    · cases hx
  · cases hx
theorem op_un {op : UnOp} {t : TypeId} {x : Operand} (ho : o.op = .unOp op t x) (hev : ∀ x, RepV Γ w (ev x) (ρ x)) (hst : StoreOk Γ w σ)
    (hx : xop ev σ id (.un op x) = some (ob, v, σ', nx')) (hob : ob) : Gives base Γ w σ id v σ' nx' ((execOp ρ o).run P w) := by
  have h1 := hev x
  simp only [xop] at hx
  split at hx
  · rename_i hvx
    rw [hvx] at h1
    simp only [Option.some.injEq, Prod.mk.injEq] at hx; obtain ⟨rfl, rfl, rfl, rfl⟩ := hx
    refine Gives.same hst (u := .bool false) ?_ (.c _ _ rfl)
    simp [execOp, ho, h1.tru, Op.unary]
  · rename_i hvx
    rw [hvx] at h1
    simp only [Option.some.injEq, Prod.mk.injEq] at hx; obtain ⟨rfl, rfl, rfl, rfl⟩ := hx
    refine Gives.same hst (u := .bool true) ?_ (.c _ _ rfl)
    simp [execOp, ho, h1.fls, Op.unary]
  · rename_i b hvx
    rw [hvx] at h1
    simp only [Option.some.injEq, Prod.mk.injEq] at hx; obtain ⟨rfl, rfl, rfl, rfl⟩ := hx
    refine Gives.same hst (u := .bool (!b)) ?_ (rep_bool _)
    simp [execOp, ho, RepV.bool h1, Op.unary]
  · rename_i n hvx
    rw [hvx] at h1
    simp only [Option.some.injEq, Prod.mk.injEq] at hx; obtain ⟨rfl, rfl, rfl, rfl⟩ := hx
    refine Gives.same hst (u := .int .i64 (-n)) ?_ (rep_int _ _)
    have e : IntKind.i64.wrap (-n) = -n := wrap64_id hob
    simp only [execOp, ho, h1.int, Op.unary, Op.intArith]
    simp [e]
  · cases hx
theorem op_conv {src dst : TypeId} {k ks : IntKind} {x : Operand} (ho : o.op = .convert src dst x) (hs : P.underlying src = some (.int ks)) (hd : P.underlying dst = some (.int k)) (hev : ∀ x, RepV Γ w (ev x) (ρ x)) (hst : StoreOk Γ w σ)
    (hx : xop ev σ id (.conv k x) = some (ob, v, σ', nx')) (hob : ob) : Gives base Γ w σ id v σ' nx' ((execOp ρ o).run P w) := by
  have h1 := hev x
  have hrun : ∀ k' n, ρ x = .int k' n → (execOp ρ o).run P w = .ok (.value (.int k (k.wrap n))) w := fun k' n h => by
    simp only [execOp, ho, Sem.run_bind, convert, run_underlying hs, run_underlying hd, Result.andThen_ok, h, Conv.intToInt, Sem.run_pure]
  simp only [xop] at hx
  split at hx
  · rename_i k' n hvx
    rw [hvx] at h1
    split at hx
    · simp only [Option.some.injEq, Prod.mk.injEq] at hx; obtain ⟨rfl, rfl, rfl, rfl⟩ := hx
      refine Gives.same hst (u := .int .i64 n) ?_ (rep_int _ _)
      rw [hrun _ _ h1.int, wrap64_id hob]
    · simp only [Option.some.injEq, Prod.mk.injEq] at hx; obtain ⟨rfl, rfl, rfl, rfl⟩ := hx
      exact Gives.same hst (hrun _ _ h1.int) (rep_int _ _)
  · cases hx
theorem ids_some {R : Type} : ∀ (xs : List Operand) (k : List Nat → Option R) (r : R), ids ev xs k = some r → ∃ l, l.length = xs.length ∧ (∀ (i : Nat) x n, xs[i]? = some x → l[i]? = some n → ev x = .c (.bp n 0)) ∧ k l = some r
  | [], k, r, h => ⟨[], rfl, by simp, h⟩
  | x :: xs, k, r, h => by
    simp only [ids] at h
    split at h
    · rename_i n hn
      obtain ⟨l, hl, hx, hk⟩ := ids_some xs _ r h
      refine ⟨n :: l, by simp [hl], fun i y m hy hm => ?_, hk⟩
      cases i with
      | zero => simp at hy hm; subst hy; subst hm; exact hn
      | succ i => exact hx i y m (by simpa using hy) (by simpa using hm)
    · cases h
theorem op_mkfn {f : FuncId} {caps : Array Operand} {first : Array Operand} (ho : o.op = .makeFunc (.func f) first caps) (hfi : first.isEmpty = true) (hev : ∀ x, RepV Γ w (ev x) (ρ x)) (hst : StoreOk Γ w σ)
    (hx : xop ev σ id (.mkfn f caps.toList) = some (ob, v, σ', nx')) : Gives base Γ w σ id v σ' nx' ((execOp ρ o).run P w) := by
  simp only [xop] at hx
  obtain ⟨l, hl, hi, hk⟩ := ids_some _ _ _ hx
  simp only [Option.some.injEq, Prod.mk.injEq] at hk; obtain ⟨_, rfl, rfl, rfl⟩ := hk
  have hfirst : first = #[] := by simpa using hfi
  have key : ∀ (xs : List Operand) (l : List Nat), l.length = xs.length → (∀ (i : Nat) x n, xs[i]? = some x → l[i]? = some n → ev x = .c (.bp n 0)) →
      ∃ bs : List Nat, bs.length = l.length ∧ (∀ (j i : Nat), l[j]? = some i → ∃ b, Γ.ρ i = some b ∧ bs[j]? = some b) ∧ xs.map ρ = bs.map fun b => ptr b 0 := by
    intro xs
    induction xs with
    | nil => intro l hl _; have : l = [] := by simpa using hl
             subst this; exact ⟨[], rfl, by simp, rfl⟩
    | cons x xs ih =>
      intro l hl hx
      match l, hl with
      | n :: l, hl =>
        obtain ⟨bs, h1, h2, h3⟩ := ih l (by simpa using hl) (fun i y m hy hm => hx (i + 1) y m (by simpa using hy) (by simpa using hm))
        have hr := hev x
        rw [hx 0 x n rfl rfl] at hr
        cases hr with | c _ u hr =>
        obtain ⟨b, hb, hu⟩ := hr
        refine ⟨b :: bs, by simp [h1], fun j i hj => ?_, by simp [h3, hu]⟩
        cases j with
        | zero => simp at hj; subst hj; exact ⟨b, hb, rfl⟩
        | succ j => exact h2 j i (by simpa using hj)
  obtain ⟨bs, h1, h2, h3⟩ := key caps.toList l hl hi
  refine Gives.same hst (u := .func (.func f) #[] (bs.map fun b => ptr b 0).toArray) ?_ (.c _ _ ⟨bs, h1, h2, rfl⟩)
  have e : caps.map ρ = (bs.map fun b => ptr b 0).toArray := by rw [← h3, ← Array.toList_map, Array.toArray_toList]
  simp [execOp, ho, hfirst, Instr.makeFunc, e]
theorem op_part {t : TypeId} {x : Operand} {f : Nat} {fs : Array Field} {fd : Field} {g : Bool} {n : Nat} (ho : o.op = .field t x f) (hu : P.underlying t = some (.struct fs)) (hf : fs[f]? = some fd) (hg : aggT P fd.type = some g) (hn : sizeT P fd.type = some n)
    (hev : ∀ x, RepV Γ w (ev x) (ρ x)) (hst : StoreOk Γ w σ) (hx : xop ev σ id (.part g fd.offset n x) = some (ob, v, σ', nx')) : Gives base Γ w σ id v σ' nx' ((execOp ρ o).run P w) := by
  have hr := hev x
  simp only [xop] at hx
  split at hx
  · rename_i cs hv
    rw [hv] at hr
    generalize hux : ρ x = ux at hr
    cases hr with | agg _ us hl hr =>
    split at hx
    · obtain ⟨hle, hk⟩ := tkc_some _ _ _ _ hx
      simp only [Option.some.injEq, Prod.mk.injEq] at hk; obtain ⟨_, rfl, rfl, rfl⟩ := hk
      refine Gives.same hst (u := .agg (us.extract fd.offset (fd.offset + n))) ?_ (.agg _ _ (by simp at hle ⊢; omega) (fun i c u hc hu => ?_))
      · simp [execOp, ho, Instr.field, run_underlying hu, hf, hux, asAgg, part, run_isAgg hg, run_sizeT hn]
      · rw [List.getElem?_take] at hc
        split at hc
        · rename_i hlt
          rw [List.getElem?_drop] at hc
          rw [Array.getElem?_extract] at hu
          split at hu
          · exact hr _ c u hc hu
          · cases hu
        · cases hc
    · split at hx
      · rename_i c rest hd
        simp only [Option.some.injEq, Prod.mk.injEq] at hx; obtain ⟨_, rfl, rfl, rfl⟩ := hx
        have hc : cs[fd.offset]? = some c := by
          have : (cs.drop fd.offset)[0]? = some c := by rw [hd]; rfl
          rw [List.getElem?_drop] at this; simpa using this
        have hlt : fd.offset < us.size := by rw [hl]; exact (List.getElem?_eq_some_iff.1 hc).1
        refine Gives.same hst (u := us[fd.offset]) ?_ (.c _ _ (hr _ c _ hc (by simp [hlt])))
        simp [execOp, ho, Instr.field, run_underlying hu, hf, hux, asAgg, part, run_isAgg hg, hlt]
      · cases hx
  · cases hx
theorem op_index {t e : TypeId} {m : Nat} {x i : Operand} {g : Bool} {n : Nat} (ho : o.op = .index t x i) (hu : P.underlying t = some (.array m e)) (hg : aggT P e = some g) (hn : sizeT P e = some n)
    (hev : ∀ x, RepV Γ w (ev x) (ρ x)) (hst : StoreOk Γ w σ) (hx : xop ev σ id (.index g n m x i) = some (ob, v, σ', nx')) (hob : ob) : Gives base Γ w σ id v σ' nx' ((execOp ρ o).run P w) := by
  have hr := hev x
  have hri := hev i
  simp only [xop] at hx
  split at hx
  · rename_i cs k a hv hvi
    rw [hv] at hr; rw [hvi] at hri
    have hri := hri.int
    generalize hux : ρ x = ux at hr
    cases hr with | agg _ us hl hr =>
    split at hx
    · obtain ⟨hle, hk⟩ := tkc_some _ _ _ _ hx
      simp only [Option.some.injEq, Prod.mk.injEq] at hk; obtain ⟨rfl, rfl, rfl, rfl⟩ := hk
      refine Gives.same hst (u := .agg (us.extract (a.toNat * n) (a.toNat * n + n))) ?_ (.agg _ _ (by simp at hle ⊢; omega) (fun i c u hc hu => ?_))
      · simp only [execOp, ho, Sem.run_bind, Instr.index, hri, asIntOf, Sem.run_pure, Result.andThen_ok, run_underlying hu, hux]
        rw [if_pos hob]
        simp [part, run_isAgg hg, run_sizeT hn]
      · rw [List.getElem?_take] at hc
        split at hc
        · rw [List.getElem?_drop] at hc
          rw [Array.getElem?_extract] at hu
          split at hu
          · exact hr _ c u hc hu
          · cases hu
        · cases hc
    · split at hx
      · rename_i c rest hd
        simp only [Option.some.injEq, Prod.mk.injEq] at hx; obtain ⟨rfl, rfl, rfl, rfl⟩ := hx
        have hc : cs[a.toNat * n]? = some c := by
          have : (cs.drop (a.toNat * n))[0]? = some c := by rw [hd]; rfl
          rw [List.getElem?_drop] at this; simpa using this
        have hlt : a.toNat * n < us.size := by rw [hl]; exact (List.getElem?_eq_some_iff.1 hc).1
        refine Gives.same hst (u := us[a.toNat * n]) ?_ (.c _ _ (hr _ c _ hc (by simp [hlt])))
        simp only [execOp, ho, Sem.run_bind, Instr.index, hri, asIntOf, Sem.run_pure, Result.andThen_ok, run_underlying hu, hux]
        rw [if_pos hob]
        simp [part, run_isAgg hg, run_sizeT hn, hlt]
      · cases hx
  · cases hx
theorem op_indexS {t : TypeId} {x i : Operand} (ho : o.op = .index t x i) (hu : P.underlying t = some .string)
    (hev : ∀ x, RepV Γ w (ev x) (ρ x)) (hst : StoreOk Γ w σ) (hx : xop ev σ id (.indexS x i) = some (ob, v, σ', nx')) (hob : ob) : Gives base Γ w σ id v σ' nx' ((execOp ρ o).run P w) := by
  have hr := hev x
  have hri := hev i
  simp only [xop] at hx
  split at hx
  · rename_i b k a hv hvi
    rw [hv] at hr; rw [hvi] at hri
    simp only [Option.some.injEq, Prod.mk.injEq] at hx; obtain ⟨rfl, rfl, rfl, rfl⟩ := hx
    obtain ⟨h0, hlt⟩ := hob
    have hlt' : a.toNat < b.size := by omega
    refine Gives.same hst (u := .int .u8 (b[a.toNat].toNat : Int)) ?_ ?_
    · simp only [execOp, ho, Sem.run_bind, Instr.index, hri.int, asIntOf, Sem.run_pure, Result.andThen_ok, run_underlying hu, hr.str]
      rw [if_pos h0]
      simp [hlt']
    · have e : b.data.toList.getD a.toNat 0 = b[a.toNat] := by
        have hd : a.toNat < b.data.size := hlt'
        have h1 : b.data.toList[a.toNat]? = some b[a.toNat] := by
          rw [Array.getElem?_toList, Array.getElem?_eq_getElem hd]; rfl
        rw [List.getD, h1]; rfl
      rw [e]; exact rep_int _ _
  · cases hx
theorem op_ext {x : Operand} {i : Nat} (ho : o.op = .extract x i) (hev : ∀ x, RepV Γ w (ev x) (ρ x)) (hst : StoreOk Γ w σ)
    (hx : xop ev σ id (.ext x i) = some (ob, v, σ', nx')) : Gives base Γ w σ id v σ' nx' ((execOp ρ o).run P w) := by
  have hr := hev x
  simp only [xop] at hx
  split at hx
  · rename_i vs hv
    rw [hv] at hr
    generalize hux : ρ x = ux at hr
    cases hr with | tup _ us hl hr =>
    have main : ∀ y rest, vs.drop i = y :: rest → ∃ u, (execOp ρ o).run P w = .ok (.value u) w ∧ RepV Γ w y u := fun y rest hd => by
      have hc : vs[i]? = some y := by
        have : (vs.drop i)[0]? = some y := by rw [hd]; rfl
        rw [List.getElem?_drop] at this; simpa using this
      have hlt : i < us.size := by rw [hl]; exact (List.getElem?_eq_some_iff.1 hc).1
      exact ⟨us[i], by simp [execOp, ho, Instr.extract, hux, hlt], hr i y _ hc (by simp [hlt])⟩
    split at hx
    · rename_i y rest hd
      simp only [Option.some.injEq, Prod.mk.injEq] at hx; obtain ⟨_, rfl, rfl, rfl⟩ := hx
      obtain ⟨u, h1, h2⟩ := main _ _ hd; exact Gives.same hst h1 h2
    · rename_i y rest hd
      simp only [Option.some.injEq, Prod.mk.injEq] at hx; obtain ⟨_, rfl, rfl, rfl⟩ := hx
      obtain ⟨u, h1, h2⟩ := main _ _ hd; exact Gives.same hst h1 h2
    · rename_i rest hd
      simp only [Option.some.injEq, Prod.mk.injEq] at hx; obtain ⟨_, rfl, rfl, rfl⟩ := hx
      obtain ⟨u, h1, h2⟩ := main _ _ hd; exact Gives.same hst h1 h2
    · cases hx
  · cases hx
theorem op_len {x : Operand} {t e : TypeId} {c : Call} (ho : o.op = .call c) (hc : c.callee = .builtin .len) (hargs : c.args.toList = [x]) (htys : c.argTypes.toList = [t])
    (ht : P.underlying t = some (.slice e)) (hev : ∀ x, RepV Γ w (ev x) (ρ x)) (hst : StoreOk Γ w σ)
    (hx : xop ev σ id (.len x) = some (ob, v, σ', nx')) : Gives base Γ w σ id v σ' nx' ((execOp ρ o).run P w) := by
  have hr := hev x
  have hargs' : c.args = #[x] := by rw [← Array.toArray_toList (xs := c.args), hargs]
  have htys' : c.argTypes = #[t] := by rw [← Array.toArray_toList (xs := c.argTypes), htys]
  have hrun : ∀ A n cap, ρ x = .slice A n cap → (execOp ρ o).run P w = .ok (.value (.int .i64 n)) w := fun A n cap h => by
    simp [execOp, ho, resolve, hc, hargs', htys', invoke, builtin, Builtin.len_, run_underlying ht, h, goInt]
  simp only [xop] at hx
  split at hx
  · rename_i s n f hv
    rw [hv] at hr
    simp only [Option.some.injEq, Prod.mk.injEq] at hx; obtain ⟨_, rfl, rfl, rfl⟩ := hx
    cases hr with | c _ u hr =>
    generalize hux : ρ x = ux at hr
    cases hr with
    | slE s f A c => exact Gives.same hst (hrun _ _ _ hux) (rep_int _ _)
    | sl s n f ad c U => exact Gives.same hst (hrun _ _ _ hux) (rep_int _ _)
  · rename_i i n hv
    rw [hv] at hr
    simp only [Option.some.injEq, Prod.mk.injEq] at hx; obtain ⟨_, rfl, rfl, rfl⟩ := hx
    cases hr with | c _ u hr =>
    obtain ⟨b, _, hu⟩ := hr
    rcases hu with ⟨rfl, _, hu⟩ | ⟨c, _, hu⟩
    · exact Gives.same hst (hrun _ _ _ hu) (rep_int _ _)
    · exact Gives.same hst (hrun _ _ _ hu) (rep_int _ _)
  · rename_i hv
    rw [hv] at hr
    simp only [Option.some.injEq, Prod.mk.injEq] at hx; obtain ⟨_, rfl, rfl, rfl⟩ := hx
    cases hr with | c _ u hr =>
    generalize hux : ρ x = ux at hr
    cases hr
    exact Gives.same hst (hrun _ _ _ hux) (rep_int _ _)
  · rename_i hv
    rw [hv] at hr
    simp only [Option.some.injEq, Prod.mk.injEq] at hx; obtain ⟨_, rfl, rfl, rfl⟩ := hx
    cases hr with | c _ u hr =>
    obtain ⟨A, hux⟩ := hr
    exact Gives.same hst (hrun _ _ _ hux) (rep_int _ _)
  · cases hx
theorem op_lenS {x : Operand} {t : TypeId} {c : Call} (ho : o.op = .call c) (hc : c.callee = .builtin .len) (hargs : c.args.toList = [x]) (htys : c.argTypes.toList = [t])
    (ht : P.underlying t = some .string) (hev : ∀ x, RepV Γ w (ev x) (ρ x)) (hst : StoreOk Γ w σ)
    (hx : xop ev σ id (.lenS x) = some (ob, v, σ', nx')) : Gives base Γ w σ id v σ' nx' ((execOp ρ o).run P w) := by
  have hr := hev x
  have hargs' : c.args = #[x] := by rw [← Array.toArray_toList (xs := c.args), hargs]
  have htys' : c.argTypes = #[t] := by rw [← Array.toArray_toList (xs := c.argTypes), htys]
  simp only [xop] at hx
  split at hx
  · rename_i b hv
    rw [hv] at hr
    simp only [Option.some.injEq, Prod.mk.injEq] at hx; obtain ⟨_, rfl, rfl, rfl⟩ := hx
    refine Gives.same hst (u := .int .i64 b.size) ?_ (rep_int _ _)
    simp [execOp, ho, resolve, hc, hargs', htys', invoke, builtin, Builtin.len_, run_underlying ht, hr.str, goInt]
  · cases hx
theorem mm_ok : ∀ (xs : List Operand) (isMax : Bool) (k : IntKind) (a : Int) (v : V), (∀ x, RepV Γ w (ev x) (ρ x)) → mmx isMax ev k xs a = some v →
    ∃ n : Int, v = vi k n ∧ ((xs.map ρ).foldlM (if isMax then Builtin.max2 else Builtin.min2) (.int k a)).run P w = .ok (.int k n) w
  | [], isMax, k, a, v, _, h => by
    simp only [mmx, Option.some.injEq] at h
    exact ⟨a, h.symm, by simp⟩
  | x :: xs, isMax, k, a, v, hev, h => by
    simp only [mmx] at h
    have hr := hev x
    split at h
    · rename_i k' b hv
      rw [hv] at hr
      split at h
      · rename_i hk
        have hk := ksame_eq hk
        subst hk
        cases isMax with
        | true =>
          obtain ⟨n, hn, hrun⟩ := mm_ok xs true k (max a b) v hev h
          refine ⟨n, hn, ?_⟩
          have e : (Builtin.max2 (.int k a) (.int k b)).run P w = .ok (.int k (max a b)) w := by
            simp only [Builtin.max2, Sem.run_pure, gt_iff_lt]
            congr 2
            omega
          simp only [if_true] at hrun ⊢
          simp only [List.map_cons, List.foldlM_cons, Sem.run_bind, hr.int, e, Result.andThen_ok, hrun]
        | false =>
          obtain ⟨n, hn, hrun⟩ := mm_ok xs false k (min a b) v hev h
          refine ⟨n, hn, ?_⟩
          have e : (Builtin.min2 (.int k a) (.int k b)).run P w = .ok (.int k (min a b)) w := by
            simp only [Builtin.min2, Sem.run_pure]
            congr 2
            omega
          simp only [Bool.false_eq_true, if_false] at hrun ⊢
          simp only [List.map_cons, List.foldlM_cons, Sem.run_bind, hr.int, e, Result.andThen_ok, hrun]
      · cases h
    · cases h
theorem op_mm {isMax : Bool} {c : Call} (ho : o.op = .call c) (hc : c.callee = .builtin (if isMax then .max else .min)) (hev : ∀ x, RepV Γ w (ev x) (ρ x)) (hst : StoreOk Γ w σ)
    (hx : xop ev σ id (.mm isMax c.args.toList) = some (ob, v, σ', nx')) : Gives base Γ w σ id v σ' nx' ((execOp ρ o).run P w) := by
  simp only [xop] at hx
  split at hx
  · rename_i x xs hxs
    have hr := hev x
    split at hx
    · rename_i k a hv
      rw [hv] at hr
      split at hx
      · rename_i v' hm
        simp only [Option.some.injEq, Prod.mk.injEq] at hx; obtain ⟨_, rfl, rfl, rfl⟩ := hx
        obtain ⟨n, rfl, hrun⟩ := mm_ok (P := P) (w := w) xs isMax k a _ hev hm
        refine Gives.same hst (u := .int k n) ?_ (rep_int _ _)
        have e : (c.args.map ρ).toList = ρ x :: xs.map ρ := by rw [Array.toList_map, hxs]; rfl
        cases isMax with
        | true =>
          simp only [if_true] at hc hrun
          simp only [execOp, ho, resolve, hc, Sem.run_bind, Sem.run_pure, Result.andThen_ok, invoke, builtin, Builtin.max_, e, hr.int, hrun]
        | false =>
          simp only [Bool.false_eq_true, if_false] at hc hrun
          simp only [execOp, ho, resolve, hc, Sem.run_bind, Sem.run_pure, Result.andThen_ok, invoke, builtin, Builtin.min_, e, hr.int, hrun]
      · cases hx
    · cases hx
  · cases hx
end
end Go.Pw

namespace Go.Pw
open Go Go.RowKit
section
variable {P : Program} {base : Nat} {Γ : Cx} {w : World} {σ σ' : Store} {id nx' : Nat} {o : Oper} {ρ : Operand → Value} {ev : Operand → V} {ob : Prop} {v : V}
theorem vbool_some {R : Type} {v : V} {k : Bool → Option R} {r : R} (h : vbool v k = some r) : ∃ b, k b = some r ∧ ∀ (Γ : Cx) (w : World) u, RepV Γ w v u → u = .bool b := by
  unfold vbool at h
  split at h
  · exact ⟨true, h, fun Γ w u hu => hu.tru⟩
  · exact ⟨false, h, fun Γ w u hu => hu.fls⟩
  · exact ⟨_, h, fun Γ w u hu => RepV.bool hu⟩
  · cases h
theorem op_eqB {neg : Bool} {op : BinOp} {t yt : TypeId} {x y : Operand} (ho : o.op = .binOp op t x y yt) (ht : P.underlying t = some .bool) (hop : op = if neg then .neq else .eql)
    (hev : ∀ x, RepV Γ w (ev x) (ρ x)) (hst : StoreOk Γ w σ) (hx : xop ev σ id (.eqB neg x y) = some (ob, v, σ', nx')) : Gives base Γ w σ id v σ' nx' ((execOp ρ o).run P w) := by
  simp only [xop] at hx
  obtain ⟨p, hx, hp⟩ := vbool_some hx
  obtain ⟨q, hx, hq⟩ := vbool_some hx
  have hp := hp Γ w _ (hev x)
  have hq := hq Γ w _ (hev y)
  have heq : (Op.equal t (.bool p) (.bool q)).run P w = .ok (p == q) w := by
    unfold Op.equal
    exact run_equalIn_bool' w 9999 t p q ht
  cases neg with
  | true =>
    simp only [Option.some.injEq, Prod.mk.injEq] at hx; obtain ⟨_, rfl, rfl, rfl⟩ := hx
    simp only [if_true] at hop
    subst hop
    refine Gives.same hst (u := .bool (p != q)) ?_ (rep_bool _)
    simp only [execOp, ho, Sem.run_bind, hp, hq, eqGuard_at_bool, Sem.run_pure, Result.andThen_ok, binOp, heq]
    rfl
  | false =>
    simp only [Option.some.injEq, Prod.mk.injEq] at hx; obtain ⟨_, rfl, rfl, rfl⟩ := hx
    simp only [Bool.false_eq_true, if_false] at hop
    subst hop
    refine Gives.same hst (u := .bool (p == q)) ?_ (rep_bool _)
    simp only [execOp, ho, Sem.run_bind, hp, hq, eqGuard_at_bool, Sem.run_pure, Result.andThen_ok, binOp, heq]
theorem repC_int {k : IntKind} {a : Int} {u : Value} (h : RepC Γ w (.d (.v (.int k a))) u) : u = .int k a := by
  generalize hd : D.v (.int k a) = d at h
  cases (show RepD Γ.I w d u from h) <;> first | cases hd
  rfl
/-- One field that is a number, compared on both sides. -/
theorem eqField_int {f : Field} {fs : List Field} {k : Nat} {us vs : Array Value} {kk ki : IntKind} {a b : Int} {rest : Bool} (hn : f.name ≠ "_") (hoff : f.offset = k) (hki : P.underlying f.type = some (.int ki))
    (h1 : us[k]? = some (.int kk a)) (h2 : vs[k]? = some (.int kk b)) (h3 : (Op.eqFields 9999 us vs fs).run P w = .ok rest w) :
    (Op.eqFields 9999 us vs (f :: fs)).run P w = .ok (decide (a = b) && rest) w := by
  have hpart : ∀ (cs : Array Value) (x : Value), cs[k]? = some x → (part f.type cs f.offset).run P w = .ok x w := fun cs x hx => by
    simp [part, isAgg, run_underlying hki, hoff, hx]
  simp only [Op.eqFields, if_pos hn, Sem.run_bind, hpart us _ h1, hpart vs _ h2, Result.andThen_ok, run_equalIn_int w 9998 f.type kk ki a b hki, Sem.run_ite, h3, Sem.run_pure]
  by_cases hab : a = b
  · simp [hab]
  · simp [hab]
theorem flat_cons {f : Field} {fs : List Field} {k : Nat} (hf : flatInts P (f :: fs) k = true) : f.name ≠ "_" ∧ f.offset = k ∧ (∃ ki, P.underlying f.type = some (.int ki)) ∧ flatInts P fs (k + 1) = true := by
  simp only [flatInts, Bool.and_eq_true, bne_iff_ne, ne_eq, beq_iff_eq] at hf
  obtain ⟨⟨⟨⟨hn, hoff⟩, hint⟩, _⟩, hrest⟩ := hf
  refine ⟨hn, hoff, ?_, hrest⟩
  split at hint
  · rename_i ki h; exact ⟨ki, h⟩
  · cases hint
theorem eqR_inv {R : Type} {x : C} {xs ys : List C} {acc : Bool} {q : Bool → Option R} {r : R} (h : eqR (x :: xs) ys acc q = some r) :
    ∃ k a b ys', x = .d (.v (.int k a)) ∧ ys = .d (.v (.int k b)) :: ys' ∧ eqR xs ys' (acc && decide (a = b)) q = some r := by
  unfold eqR at h
  split at h
  · contradiction
  · rename_i heq
    split at h
    · rename_i hk
      have hk := ksame_eq hk
      subst hk
      cases heq
      exact ⟨_, _, _, _, rfl, rfl, h⟩
    · cases h
  · cases h
theorem eqR_ok {R : Type} {us vs : Array Value} : ∀ (fs : List Field) (xs ys : List C) (acc : Bool) (q : Bool → Option R) (r : R) (k : Nat), eqR xs ys acc q = some r → flatInts P fs k = true → fs.length = xs.length →
    (∀ (i : Nat) c, xs[i]? = some c → ∃ u, us[k + i]? = some u ∧ RepC Γ w c u) → (∀ (i : Nat) c, ys[i]? = some c → ∃ u, vs[k + i]? = some u ∧ RepC Γ w c u) →
    ∃ b, q (acc && b) = some r ∧ (Op.eqFields 9999 us vs fs).run P w = .ok b w
  | [], [], ys, acc, q, r, k, h, _, _, _, _ => by
    match ys, h with
    | [], h => exact ⟨true, by simpa [eqR] using h, by simp [Op.eqFields]⟩
  | f :: fs, [], _, _, _, _, _, _, _, hl, _, _ => by simp at hl
  | [], _ :: _, _, _, _, _, _, _, _, hl, _, _ => by simp at hl
  | f :: fs, x :: xs, ys, acc, q, r, k, h, hf, hl, hx, hy => by
    obtain ⟨hn, hoff, ⟨ki, hki⟩, hrest⟩ := flat_cons hf
    obtain ⟨kk, a, b, ys', rfl, rfl, h2⟩ := eqR_inv h
    obtain ⟨u, hu, hru⟩ := hx 0 _ rfl
    obtain ⟨u', hu', hru'⟩ := hy 0 _ rfl
    rw [repC_int hru] at hu; rw [repC_int hru'] at hu'
    obtain ⟨b', hq, hrun⟩ := eqR_ok fs xs ys' _ q r (k + 1) h2 hrest (by simpa using hl) (fun i c hc => by
      have := hx (i + 1) c (by simpa using hc); rwa [show k + (i + 1) = k + 1 + i by omega] at this) (fun i c hc => by
      have := hy (i + 1) c (by simpa using hc); rwa [show k + (i + 1) = k + 1 + i by omega] at this)
    exact ⟨_, by rw [← Bool.and_assoc]; exact hq, eqField_int hn hoff hki hu hu' hrun⟩
theorem eqC_inv {R : Type} {xs ys : List C} {q : Bool → Option R} {r : R} (h : eqC xs ys q = some r) :
    ∃ k a b xs' ys', xs = .d (.v (.int k a)) :: xs' ∧ ys = .d (.v (.int k b)) :: ys' ∧ eqR xs' ys' (decide (a = b)) q = some r := by
  unfold eqC at h
  split at h
  · split at h
    · rename_i hk
      have hk := ksame_eq hk
      subst hk
      exact ⟨_, _, _, _, _, rfl, rfl, h⟩
    · cases h
  · cases h
theorem eqC_ok {R : Type} {us vs : Array Value} (fs : List Field) (xs ys : List C) (q : Bool → Option R) (r : R) (h : eqC xs ys q = some r) (hf : flatInts P fs 0 = true) (hl : fs.length = xs.length)
    (hx : ∀ (i : Nat) c, xs[i]? = some c → ∃ u, us[i]? = some u ∧ RepC Γ w c u) (hy : ∀ (i : Nat) c, ys[i]? = some c → ∃ u, vs[i]? = some u ∧ RepC Γ w c u) :
    ∃ b, q b = some r ∧ (Op.eqFields 9999 us vs fs).run P w = .ok b w := by
  obtain ⟨kk, a, b, xs', ys', rfl, rfl, h2⟩ := eqC_inv h
  match fs, hl with
  | f :: fs, hl =>
    obtain ⟨hn, hoff, ⟨ki, hki⟩, hrest⟩ := flat_cons hf
    obtain ⟨u, hu, hru⟩ := hx 0 _ rfl
    obtain ⟨u', hu', hru'⟩ := hy 0 _ rfl
    rw [repC_int hru] at hu; rw [repC_int hru'] at hu'
    obtain ⟨b', hq, hrun⟩ := eqR_ok (Γ := Γ) (us := us) (vs := vs) fs xs' ys' _ q r 1 h2 hrest (by simpa using hl) (fun i c hc => by
      have := hx (i + 1) c (by simpa using hc); rwa [Nat.add_comm] at this) (fun i c hc => by
      have := hy (i + 1) c (by simpa using hc); rwa [Nat.add_comm] at this)
    exact ⟨_, hq, eqField_int hn hoff hki hu hu' hrun⟩
theorem op_eqA {neg : Bool} {op : BinOp} {t yt : TypeId} {x y : Operand} {fs : Array Field} (ho : o.op = .binOp op t x y yt) (ht : P.underlying t = some (.struct fs)) (hf : flatInts P fs.toList 0 = true) (hp : P.stoodInHeld t = false) (hm : P.eqGuardType P.depth t = false)
    (hop : op = if neg then .neq else .eql) (hev : ∀ x, RepV Γ w (ev x) (ρ x)) (hst : StoreOk Γ w σ) (hx : xop ev σ id (.eqA neg fs.size x y) = some (ob, v, σ', nx')) : Gives base Γ w σ id v σ' nx' ((execOp ρ o).run P w) := by
  have h1 := hev x
  have h2 := hev y
  simp only [xop] at hx
  split at hx
  · rename_i xs ys hvx hvy
    rw [hvx] at h1; rw [hvy] at h2
    split at hx
    · rename_i hl1 hl2
      have hl1 := Nat.eq_of_beq_eq_true hl1
      have hl2 := Nat.eq_of_beq_eq_true hl2
      generalize hux : ρ x = ux at h1
      generalize huy : ρ y = uy at h2
      cases h1 with | agg _ us hu1 hr1 =>
      cases h2 with | agg _ vs hu2 hr2 =>
      have hfields : P.fieldsOf t = fs := by simp [Program.fieldsOf, ht]
      obtain ⟨b, hq, hrun⟩ := eqC_ok (P := P) (Γ := Γ) (w := w) (us := us) (vs := vs) fs.toList xs ys _ _ hx hf (by simp [hl1]) (fun i c hc => by
          have hi : i < us.size := by rw [hu1]; exact (List.getElem?_eq_some_iff.1 hc).1
          exact ⟨us[i], by simp [hi], hr1 i c _ hc (by simp [hi])⟩) (fun i c hc => by
          have hi : i < vs.size := by rw [hu2]; exact (List.getElem?_eq_some_iff.1 hc).1
          exact ⟨vs[i], by simp [hi], hr2 i c _ hc (by simp [hi])⟩)
      have heq : (Op.equalIn 10000 t (.agg us) (.agg vs)).run P w = .ok b w := by
        rw [show (10000 : Nat) = 9999 + 1 from rfl, run_equalIn_struct w 9999 t us vs (by rw [hfields]; exact ht) hp, hfields]; exact hrun
      cases neg with
      | true =>
        simp only [Option.some.injEq, Prod.mk.injEq] at hq; obtain ⟨_, rfl, rfl, rfl⟩ := hq
        simp only [if_true] at hop
        subst hop
        refine Gives.same hst (u := .bool (!b)) ?_ (rep_bool _)
        simp only [execOp, ho, Sem.run_bind, hux, huy, run_eqGuard_agg w .neq t x y us vs hm, Result.andThen_ok, run_neq_struct, heq, Sem.run_pure]
      | false =>
        simp only [Option.some.injEq, Prod.mk.injEq] at hq; obtain ⟨_, rfl, rfl, rfl⟩ := hq
        simp only [Bool.false_eq_true, if_false] at hop
        subst hop
        refine Gives.same hst (u := .bool b) ?_ (rep_bool _)
        simp only [execOp, ho, Sem.run_bind, hux, huy, run_eqGuard_agg w .eql t x y us vs hm, Result.andThen_ok, run_eql_struct, heq, Sem.run_pure]
    · cases hx
  · cases hx
theorem slice_rep {s n c : Nat} {f : Nat → List D} {A : Option Addr} (hr : RepD Γ.I w (.sl s n f) (.slice A n c)) (hnc : n ≤ c) (l h : Nat) (hlh : l ≤ h) (hhn : h ≤ n) :
    RepD Γ.I w (.sl s (h - l) fun i => f (l + i)) (.slice (if c = l then A else A.map (·.add (l * s))) (h - l) (c - l)) := by
  by_cases h0 : h = l
  · subst h0; rw [Nat.sub_self]; exact .slE _ _ _ _
  · rw [if_neg (by omega)]
    cases hr with
    | slE => omega
    | sl s n f ad c U hn hI hs hc hrr =>
      refine .sl _ _ _ _ _ (fun i j => U (l + i) j) (by omega) (by rw [block_add]; exact hI) (fun i hi => hs _ (by omega)) (fun i j d hi hd => ?_) (fun i j d hi hd => hrr _ _ d (by omega) hd)
      rw [add_add, ← Nat.add_assoc, ← Nat.add_mul]
      exact hc _ _ d (by omega) hd
theorem sl_form {s n : Nat} {f : Nat → List D} {u : Value} (hr : RepD Γ.I w (.sl s n f) u) : ∃ A c, u = .slice A n c ∧ n ≤ c := by
  cases hr with
  | slE s f A c => exact ⟨A, c, rfl, Nat.zero_le _⟩
  | sl s n f ad c U hn => exact ⟨_, c, rfl, hn⟩
theorem op_slc {t e : TypeId} {x : Operand} {lo hi : Option Operand} {s : Nat} (ho : o.op = .slice t x lo hi none) (hu : P.underlying t = some (.slice e)) (hn : sizeT P e = some s)
    (hev : ∀ x, RepV Γ w (ev x) (ρ x)) (hst : StoreOk Γ w σ) (hx : xop ev σ id (.slc s x lo hi) = some (ob, v, σ', nx')) (hob : ob) : Gives base Γ w σ id v σ' nx' ((execOp ρ o).run P w) := by
  have hr := hev x
  have hbound : ∀ k (i : Int) (y : Nat) code, 0 ≤ i → i ≤ y → (Instr.sliceBound (.int k i) y code).run P w = .ok i.toNat w := fun k i y code h0 h1 => by
    simp only [Instr.sliceBound, asIntOf, Sem.run_bind, Sem.run_pure, Result.andThen_ok]
    rw [if_pos ⟨h0, h1⟩]; rfl
  simp only [xop] at hx
  split at hx
  · rename_i s' n f hv
    rw [hv] at hr
    split at hx
    · rename_i hs
      have hs := Nat.eq_of_beq_eq_true hs
      subst hs
      cases hr with | c _ u hr =>
      obtain ⟨A, c, hux, hnc⟩ := sl_form hr
      have hr' : RepD Γ.I w (.sl s n f) (ρ x) := hr
      rw [hux] at hr'
      have main : ∀ (l h : Nat), l ≤ h → h ≤ n → (Instr.sliceBounds true n c (lo.map ρ) (hi.map ρ) none).run P w = .ok (l, h, c) w →
          ∃ u, (execOp ρ o).run P w = .ok (.value u) w ∧ RepD Γ.I w (.sl s (h - l) fun i => f (l + i)) u := by
        intro l h hlh hhn hb
        refine ⟨_, ?_, slice_rep hr' hnc l h hlh hhn⟩
        simp only [execOp, ho, Sem.run_bind, Instr.sliceAt, run_underlying hu, Result.andThen_ok, Instr.slice, hux, Option.map_none, hb, run_sizeT hn, Sem.run_pure]
      split at hx
      · -- the whole
        simp only [Option.some.injEq, Prod.mk.injEq] at hx; obtain ⟨_, rfl, rfl, rfl⟩ := hx
        obtain ⟨u, h1, h2⟩ := main 0 n (Nat.zero_le _) (Nat.le_refl _) (by simp [Instr.sliceBounds])
        refine Gives.same hst h1 (.c _ _ ?_)
        simp only [Nat.zero_add, Nat.sub_zero] at h2; exact h2
      · rename_i hop
        split at hx
        · rename_i k h hvh
          simp only [Option.some.injEq, Prod.mk.injEq] at hx; obtain ⟨rfl, rfl, rfl, rfl⟩ := hx
          have hrh := hev hop
          rw [hvh] at hrh
          have hb := hbound k h c .sliceAcap hob.1 (by omega)
          have hrun : (Instr.sliceBounds true n c none (some (ρ hop)) none).run P w = .ok (0, h.toNat, c) w := by
            simp [Instr.sliceBounds, hrh.int, hb]
          obtain ⟨u, h1, h2⟩ := main 0 h.toNat (Nat.zero_le _) (by omega) hrun
          refine Gives.same hst h1 (.c _ _ ?_)
          simp only [Nat.zero_add, Nat.sub_zero] at h2; exact h2
        · cases hx
      · rename_i lop
        split at hx
        · rename_i k l hvl
          simp only [Option.some.injEq, Prod.mk.injEq] at hx; obtain ⟨rfl, rfl, rfl, rfl⟩ := hx
          have hrl := hev lop
          rw [hvl] at hrl
          have hb := hbound k l n .sliceB hob.1 hob.2
          have hrun : (Instr.sliceBounds true n c (some (ρ lop)) none none).run P w = .ok (l.toNat, n, c) w := by
            simp [Instr.sliceBounds, hrl.int, hb]
          obtain ⟨u, h1, h2⟩ := main l.toNat n (by omega) (Nat.le_refl _) hrun
          exact Gives.same hst h1 (.c _ _ h2)
        · cases hx
      · rename_i lop hop
        split at hx
        · rename_i k l k' h hvl hvh
          simp only [Option.some.injEq, Prod.mk.injEq] at hx; obtain ⟨rfl, rfl, rfl, rfl⟩ := hx
          have hrl := hev lop
          have hrh := hev hop
          rw [hvl] at hrl; rw [hvh] at hrh
          obtain ⟨o1, o2, o3⟩ := hob
          have hb1 := hbound k' h c .sliceAcap (by omega) (by omega)
          have hb2 := hbound k l h.toNat .sliceB o1 (by omega)
          have hrun : (Instr.sliceBounds true n c (some (ρ lop)) (some (ρ hop)) none).run P w = .ok (l.toNat, h.toNat, c) w := by
            simp [Instr.sliceBounds, hrl.int, hrh.int, hb1, hb2]
          obtain ⟨u, h1, h2⟩ := main l.toNat h.toNat (by omega) (by omega) hrun
          exact Gives.same hst h1 (.c _ _ h2)
        · cases hx
    · cases hx
  · cases hx
end
end Go.Pw

namespace Go.Pw
open Go Go.RowKit
section
variable {P : Program} {base : Nat} {Γ : Cx} {w : World} {σ σ' : Store} {id nx' : Nat} {o : Oper} {ρ : Operand → Value} {ev : Operand → V} {ob : Prop} {v : V}
theorem rowsOf_some {R : Type} {s : Nat} : ∀ (xs : List Operand) (k : List (List D) → Option R) (r : R), rowsOf ev s xs k = some r →
    ∃ rs, rs.length = xs.length ∧ (∀ (i : Nat) x row, xs[i]? = some x → rs[i]? = some row → ∃ l, vcells (ev x) = some l ∧ l.length = s ∧ row.length = s ∧ ∀ (j : Nat) c d, l[j]? = some c → row[j]? = some d → toD c = some d) ∧ k rs = some r
  | [], k, r, h => ⟨[], rfl, by simp, h⟩
  | x :: xs, k, r, h => by
    simp only [rowsOf] at h
    split at h
    · rename_i l hl
      split at h
      · rename_i hs
        have hs := Nat.eq_of_beq_eq_true hs
        obtain ⟨ds, h1, h2, h3⟩ := toDs_some _ _ _ h
        obtain ⟨rs, h4, h5, h6⟩ := rowsOf_some xs _ r h3
        refine ⟨ds :: rs, by simp [h4], fun i y row hy hrow => ?_, h6⟩
        cases i with
        | zero => simp at hy hrow; subst hy; subst hrow; exact ⟨l, hl, hs, by rw [h1, hs], h2⟩
        | succ i => exact h5 i y row (by simpa using hy) (by simpa using hrow)
      · cases h
    · cases h
theorem inOrder_get : ∀ (ps : List (Nat × Operand)) (k : Nat) (xs : List Operand), inOrder ps k = some xs → xs.length = ps.length ∧ ∀ (i : Nat) q, ps[i]? = some q → q.1 = k + i ∧ xs[i]? = some q.2
  | [], k, xs, h => by simp [inOrder] at h; subst h; exact ⟨rfl, by simp⟩
  | (i, x) :: ps, k, xs, h => by
    simp only [inOrder] at h
    split at h
    · rename_i hik
      obtain ⟨ys, hys, rfl⟩ := Option.map_eq_some_iff.1 h
      obtain ⟨h1, h2⟩ := inOrder_get ps (k + 1) ys hys
      refine ⟨by simp [h1], fun j q hq => ?_⟩
      cases j with
      | zero => simp at hq; subst hq; exact ⟨hik, rfl⟩
      | succ j =>
        obtain ⟨h3, h4⟩ := h2 j q (by simpa using hq)
        exact ⟨by omega, by simpa using h4⟩
    · cases h
/-- Filling a row part by part: each part's cells stand in its place. -/
theorem fill_rows {s : Nat} : ∀ (ps : List (Nat × Value)) (k : Nat) (us : Array Value), (∀ (i : Nat) q, ps[i]? = some q → q.1 = k + i ∧ q.2.cells.size = s) → (k + ps.length) * s ≤ us.size →
    ∃ us', Instr.fill (fun i => some (i * s, s)) us ps = some us' ∧ us'.size = us.size ∧ (∀ q, q < k * s → us'[q]? = us[q]?) ∧
      ∀ (i j : Nat) q, ps[i]? = some q → j < s → us'[(k + i) * s + j]? = q.2.cells[j]?
  | [], k, us, _, _ => ⟨us, rfl, rfl, fun _ _ => rfl, by simp⟩
  | (i, v) :: ps, k, us, hp, hl => by
    obtain ⟨hi, hv⟩ := hp 0 _ rfl
    simp only [Nat.add_zero] at hi hv
    subst hi
    have hk1 : (i + 1) * s ≤ us.size := Nat.le_trans (Nat.mul_le_mul_right _ (by simp)) hl
    have hk2 : i * s + s ≤ us.size := by rw [Nat.add_mul, Nat.one_mul] at hk1; exact hk1
    have harr : v.cells.zipIdx.foldl (fun cs (c, j) => cs.setIfInBounds (i * s + j) c) us = (v.cells.toList.zipIdx (i * s)).foldl (fun cs (c, j) => cs.setIfInBounds j c) us := by
      rw [← Array.foldl_toList, Array.toList_zipIdx, fold_set]; simp
    have hlen : v.cells.toList.length = s := by simpa using hv
    obtain ⟨us', h1, h2, h3, h4⟩ := fill_rows ps (i + 1) ((v.cells.toList.zipIdx (i * s)).foldl (fun cs (c, j) => cs.setIfInBounds j c) us) (fun j q hq => by
        obtain ⟨h5, h6⟩ := hp (j + 1) q (by simpa using hq); exact ⟨by omega, h6⟩) (by rw [fold_set_size]; simpa [Nat.add_assoc, Nat.add_comm 1] using hl)
    refine ⟨us', ?_, by rw [h2, fold_set_size], fun q hq => ?_, fun j jj q hq hj => ?_⟩
    · simp only [Instr.fill]
      rw [if_neg (by simp; constructor <;> omega), harr]
      exact h1
    · rw [h3 q (by rw [Nat.add_mul]; omega), fold_set_get _ _ _ _ (by rw [hlen]; omega), if_neg (by omega)]
    · cases j with
      | zero =>
        simp at hq; subst hq
        rw [Nat.add_zero, h3 _ (by rw [Nat.add_mul]; omega), fold_set_get _ _ _ _ (by rw [hlen]; omega), if_pos (by rw [hlen]; omega)]
        simp
      | succ j =>
        have := h4 j jj q (by simpa using hq) hj
        rw [show i + 1 + j = i + (j + 1) by omega] at this
        exact this
theorem div_lt_of {q m s : Nat} (hs : 0 < s) (h : q < m * s) : q / s < m := by
  rw [Nat.div_lt_iff_lt_mul hs]; exact h
theorem op_lit {own : Bool} {t e : TypeId} {len s : Nat} {parts : Array (Nat × Operand)} {z : List Value} {xs : List Operand} (ho : o.op = .buildSlice t len parts) (hu : P.underlying t = some (.slice e)) (hn : sizeT P e = some s) (hz : zeroOf P e = some z)
    (hord : inOrder parts.toList 0 = some xs) (hlen : xs.length = len) (hbig : len * s ≤ 16777216) (hs0 : 0 < s)
    (hev : ∀ x, RepV Γ w (ev x) (ρ x)) (hst : StoreOk Γ w σ) (hid : Γ.ρ id = none) (hbase : base ≤ id) (hx : xop ev σ id (.lit own e s xs) = some (ob, v, σ', nx')) : Gives base Γ w σ id v σ' nx' ((execOp ρ o).run P w) := by
  obtain ⟨i, zv, hi, hzv, hzc, h1, hsz⟩ := zeroOf_spec hz
  simp only [xop] at hx
  obtain ⟨rs, hrl, hrow, hk⟩ := rowsOf_some _ _ _ hx
  obtain ⟨hol, hoget⟩ := inOrder_get _ _ _ hord
  have hps : ∀ (j : Nat) q, (parts.toList.map fun (i, x) => (i, ρ x))[j]? = some q → q.1 = 0 + j ∧ q.2.cells.size = s := fun j q hq => by
    simp only [List.getElem?_map, Option.map_eq_some_iff] at hq
    obtain ⟨⟨i, x⟩, hp, rfl⟩ := hq
    obtain ⟨h3, h4⟩ := hoget j _ hp
    have hjl : j < rs.length := by rw [hrl]; exact (List.getElem?_eq_some_iff.1 h4).1
    obtain ⟨l, hl, hls, _⟩ := hrow j x rs[j] h4 (List.getElem?_eq_getElem hjl)
    exact ⟨h3, by rw [((hev x).cells hl).1, hls]⟩
  have hplen : (parts.toList.map fun (i, x) => (i, ρ x)).length = len := by simp only [List.length_map]; rw [← hol, hlen]
  obtain ⟨us', hf1, hf2, _, hf4⟩ := fill_rows (s := s) (parts.toList.map fun (i, x) => (i, ρ x)) 0 ((Array.range (len * s)).map ((if len * s = 0 then #[] else zv.cells)[· % (if len * s = 0 then #[] else zv.cells).size]!)) hps (by simp only [Nat.zero_add, hplen]; simp)
  have hus : us'.size = len * s := by rw [hf2]; simp
  have hrun : (execOp ρ o).run P w = .ok (.value (.slice (some ⟨w.heap.size, 0, none⟩) len len)) (w.alloc (.cells us' e)) := by
    have hparts : (parts.map fun (i, x) => (i, ρ x)).toList = parts.toList.map fun (i, x) => (i, ρ x) := by simp
    simp only [execOp, ho, Instr.buildSlice, Sem.run_bind, run_underlying hu, Result.andThen_ok, run_sizeT hn]
    rw [if_neg (by omega)]
    by_cases h0 : len * s = 0
    · rw [if_pos h0] at hf1
      rw [if_pos h0]
      simp only [Sem.run_bind, Sem.run_pure, Result.andThen_ok, hparts, hf1, newRow, run_newObj, World.alloc_eq]
    · rw [if_neg h0] at hf1
      rw [if_neg h0]
      simp only [Sem.run_bind, Sem.run_pure, Result.andThen_ok, run_zeroValue' hi hzv, hparts, hf1, newRow, run_newObj, World.alloc_eq]
  -- the rows' cells
  have hcell : ∀ (i j : Nat) (d : D), i < len → (rs.getD i [])[j]? = some d → ∃ x, us'[i * s + j]? = some x ∧ RepD Γ.I w d x := fun i j d hilt hd => by
    have hir : i < rs.length := by rw [hrl, hlen]; exact hilt
    have hix : i < xs.length := by rw [hlen]; exact hilt
    have hg : rs.getD i [] = rs[i] := by rw [List.getD, List.getElem?_eq_getElem hir]; rfl
    rw [hg] at hd
    obtain ⟨l, hl, hls, hrls, hto⟩ := hrow i xs[i] rs[i] (List.getElem?_eq_getElem hix) (List.getElem?_eq_getElem hir)
    have hj : j < s := by rw [← hrls]; exact (List.getElem?_eq_some_iff.1 hd).1
    have hjl : j < l.length := by rw [hls]; exact hj
    obtain ⟨hc1, hc2, _⟩ := (hev xs[i]).cells hl
    obtain ⟨x, hx, hrx⟩ := hc2 j l[j] (List.getElem?_eq_getElem hjl)
    refine ⟨x, ?_, toD_rep (hto j _ d (List.getElem?_eq_getElem hjl) hd) hrx⟩
    have hip : i < parts.toList.length := by rw [← hol]; exact hix
    obtain ⟨_, hq2⟩ := hoget i _ (List.getElem?_eq_getElem hip)
    have hq : (parts.toList.map fun (i, x) => (i, ρ x))[i]? = some (parts.toList[i].1, ρ parts.toList[i].2) := by rw [List.getElem?_map, List.getElem?_eq_getElem hip]; rfl
    have := hf4 i j _ hq hj
    rw [Nat.zero_add] at this
    rw [this]
    have e2 : parts.toList[i].2 = xs[i] := by
      rw [List.getElem?_eq_getElem hix] at hq2; injection hq2 with hq2; exact hq2.symm
    simp only [e2]; exact hx
  have hrowlen : ∀ i, i < len → (rs.getD i []).length = s := fun i hilt => by
    have hir : i < rs.length := by rw [hrl, hlen]; exact hilt
    have hix : i < xs.length := by rw [hlen]; exact hilt
    obtain ⟨_, _, _, h3, _⟩ := hrow i xs[i] rs[i] (List.getElem?_eq_getElem hix) (List.getElem?_eq_getElem hir)
    rw [List.getD, List.getElem?_eq_getElem hir]; exact h3
  have hmax : len ≤ maxLen := by
    have : len ≤ len * s := Nat.le_mul_of_pos_right _ hs0
    unfold maxLen; omega
  match rs, hrl, hk, hcell, hrowlen with
  | [], hrl, hk, _, _ =>
    simp only [Option.some.injEq, Prod.mk.injEq] at hk; obtain ⟨_, rfl, rfl, rfl⟩ := hk
    have hl0 : len = 0 := by rw [← hlen, ← hrl]; rfl
    subst hl0
    have hb := alloc_still (base := base) hst (.cells us' e)
    exact ⟨_, _, _, .inl hrun, .c _ _ ⟨_, rfl⟩, hb.1, CxLe.also _ _, hb.2, fun _ _ => rfl, .inl ⟨rfl, rfl⟩⟩
  | r :: rs, hrl, hk, hcell, hrowlen =>
    have hl1 : (r :: rs).length = len := by rw [hrl, hlen]
    cases own with
    | true =>
      simp only [Option.some.injEq, Prod.mk.injEq] at hk; obtain ⟨_, rfl, rfl, rfl⟩ := hk
      have hb := alloc_row (base := base) hst hid hbase e s (r :: rs).length len (fun i => (r :: rs).getD i []) us' (by omega) hmax hus (fun i hi => hrowlen i (by omega)) (fun i j d hi hd => hcell i j d (by omega) hd)
      exact ⟨_, _, _, .inl hrun, .c _ _ ⟨_, upd_ρ_same, .inr ⟨len, upd_κ_same, by rw [hl1]⟩⟩, hb.1, CxLe.upd _ _ _ hid, hb.2, fun i hi => upd_ρ hi, .inr rfl⟩
    | false =>
      simp only [Option.some.injEq, Prod.mk.injEq] at hk; obtain ⟨_, rfl, rfl, rfl⟩ := hk
      have hb := alloc_still (base := base) hst (.cells us' e)
      refine ⟨_, _, _, .inl hrun, .c _ _ ?_, hb.1, CxLe.also _ _, hb.2, fun _ _ => rfl, .inl ⟨rfl, rfl⟩⟩
      show RepD _ _ _ _
      rw [hl1]
      refine .sl _ _ _ _ _ (fun i j => us'.getD (i * s + j) undef) (Nat.le_refl _) (.inr rfl) (fun i hi => hrowlen i hi) (fun i j d hi hd => ?_) (fun i j d hi hd => ?_)
      · obtain ⟨x, hx, _⟩ := hcell i j d hi hd
        rw [cell_at (heap_alloc_new' _ _)]
        rw [Nat.zero_add, hx]
        have : us'.getD (i * s + j) undef = x := by rw [Array.getD_eq_getD_getElem?, hx]; rfl
        rw [this]
      · obtain ⟨x, hx, hr⟩ := hcell i j d hi hd
        have : us'.getD (i * s + j) undef = x := by rw [Array.getD_eq_getD_getElem?, hx]; rfl
        rw [this]
        exact hr.mono (fun _ h => .inl h) (alloc_same hst _)
end
end Go.Pw

namespace Go.Pw
open Go Go.RowKit
section
variable {P : Program} {base : Nat} {Γ : Cx} {w : World} {σ σ' : Store} {id nx' : Nat} {o : Oper} {ρ : Operand → Value} {ev : Operand → V} {ob : Prop} {v : V}
theorem made_get {z : Array Value} {s n i j : Nat} (hz : z.size = s) (hi : i < n) (hj : j < s) : (madeCells z (n * s))[i * s + j]? = z[j]? := by
  have hlt : i * s + j < n * s := by
    have : (i + 1) * s ≤ n * s := Nat.mul_le_mul_right _ hi
    rw [Nat.add_mul] at this; omega
  have hm : (i * s + j) % s = j := by rw [Nat.mul_comm, Nat.mul_add_mod]; exact Nat.mod_eq_of_lt hj
  subst hz
  simp [madeCells, hlt, hm, hj]
theorem op_make {own : Bool} {t e : TypeId} {l c x : Operand} {s b : Nat} {z : List Value} (ho : o.op = .makeSlice t l c) (hu : P.underlying t = some (.slice e)) (hb : bytesT P e = some b) (hz : zeroOf P e = some z)
    (hl : l = x ∧ c = x) (hb0 : 0 < b) (hzl : z.length = s)
    (hev : ∀ x, RepV Γ w (ev x) (ρ x)) (hst : StoreOk Γ w σ) (hid : Γ.ρ id = none) (hbase : base ≤ id) (hx : xop ev σ id (.make own e s b z x) = some (ob, v, σ', nx')) (hob : ob) : Gives base Γ w σ id v σ' nx' ((execOp ρ o).run P w) := by
  obtain ⟨i, zv, hi, hzv, hzc, h1, hsz⟩ := zeroOf_spec hz
  obtain ⟨rfl, rfl⟩ := hl
  have hr := hev c
  simp only [xop] at hx
  split at hx
  · rename_i k n hv
    rw [hv] at hr
    have hib : i.bytes = b := by
      unfold bytesT at hb; rw [hi] at hb; simpa using hb
    have hzs : zv.cells.size = s := by rw [← hzl, ← hzc]; simp
    have his : i.size = s := by rw [hsz, hzl]
    have key : 0 ≤ n ∧ n * (b : Int) ≤ 140737488355328 → n.toNat ≤ maxLen ∧ (execOp ρ o).run P w = .ok (.value (.slice (some ⟨w.heap.size, 0, none⟩) n.toNat n.toNat)) (w.alloc (.cells (madeCells zv.cells (n.toNat * s)) e)) := fun ⟨h0, h2⟩ => by
      have hle : n ≤ 140737488355328 := by
        have : n * 1 ≤ n * (b : Int) := Int.mul_le_mul_of_nonneg_left (by omega) h0
        omega
      have hrun := run_make (P := P) w t e i zv hu hi hzv k k n n h0 (Int.le_refl _) (by rw [hib, Int.mul_comm]; omega) (by omega)
      refine ⟨by unfold maxLen; omega, ?_⟩
      simp only [execOp, ho, Sem.run_bind, hr.int, hrun, Result.andThen_ok, Sem.run_pure, his]
    have hcell : ∀ (q j : Nat) (d : D), q < n.toNat → (z.map D.v)[j]? = some d → ∃ x, (madeCells zv.cells (n.toNat * s))[q * s + j]? = some x ∧ RepD Γ.I w d x := fun q j d hq hd => by
      simp only [List.getElem?_map, Option.map_eq_some_iff] at hd
      obtain ⟨y, hy, rfl⟩ := hd
      have hj : j < s := by rw [← hzl]; exact (List.getElem?_eq_some_iff.1 hy).1
      refine ⟨y, ?_, .v _ (h1 y (List.mem_of_getElem? hy))⟩
      rw [made_get hzs hq hj]
      rw [← hzc] at hy; simpa using hy
    split at hx
    · simp only [Option.some.injEq, Prod.mk.injEq] at hx; obtain ⟨rfl, rfl, rfl, rfl⟩ := hx
      obtain ⟨hmx, hrun⟩ := key hob
      have hb := alloc_row (base := base) hst hid hbase e s n.toNat n.toNat (fun _ => z.map .v) (madeCells zv.cells (n.toNat * s)) (Nat.le_refl _) hmx (size_madeCells _ _) (fun _ _ => by simp [hzl]) hcell
      exact ⟨_, _, _, .inl hrun, .c _ _ ⟨_, upd_ρ_same, .inr ⟨_, upd_κ_same, rfl⟩⟩, hb.1, CxLe.upd _ _ _ hid, hb.2, fun i hi => upd_ρ hi, .inr rfl⟩
    · simp only [Option.some.injEq, Prod.mk.injEq] at hx; obtain ⟨rfl, rfl, rfl, rfl⟩ := hx
      obtain ⟨hmx, hrun⟩ := key hob
      have hb := alloc_still (base := base) hst (.cells (madeCells zv.cells (n.toNat * s)) e)
      refine ⟨_, _, _, .inl hrun, .c _ _ ?_, hb.1, CxLe.also _ _, hb.2, fun _ _ => rfl, .inl ⟨rfl, rfl⟩⟩
      refine .sl _ _ _ _ _ (fun _ j => z.getD j undef) (Nat.le_refl _) (.inr rfl) (fun _ _ => by simp [hzl]) (fun q j d hq hd => ?_) (fun q j d hq hd => ?_)
      · rw [cell_at (heap_alloc_new' _ _), Nat.zero_add]
        simp only [List.getElem?_map, Option.map_eq_some_iff] at hd
        obtain ⟨y, hy, rfl⟩ := hd
        have hj : j < s := by rw [← hzl]; exact (List.getElem?_eq_some_iff.1 hy).1
        rw [made_get hzs hq hj, List.getD, hy]
        rw [← hzc] at hy; simpa using hy
      · simp only [List.getElem?_map, Option.map_eq_some_iff] at hd
        obtain ⟨y, hy, rfl⟩ := hd
        rw [List.getD, hy]
        exact .v _ (h1 y (List.mem_of_getElem? hy))
  · cases hx
theorem arr_getD {xs : Array Value} {q : Nat} {x : Value} (h : xs[q]? = some x) : xs.getD q undef = x := by rw [Array.getD_eq_getD_getElem?, h]; rfl
/-- A slice's cells as one list, by rows. -/
def flat (U : Nat → Nat → Value) (m s : Nat) : List Value := (List.range (m * s)).map fun q => U (q / s) (q % s)
theorem flat_length (U : Nat → Nat → Value) (m s : Nat) : (flat U m s).length = m * s := by simp [flat]
theorem flat_get {U : Nat → Nat → Value} {m s i j : Nat} (hi : i < m) (hj : j < s) : (flat U m s)[i * s + j]? = some (U i j) := by
  have hlt : i * s + j < m * s := by
    have : (i + 1) * s ≤ m * s := Nat.mul_le_mul_right _ hi
    rw [Nat.add_mul] at this; omega
  have h1 : (i * s + j) / s = i := by
    rw [Nat.mul_comm, Nat.mul_add_div (by omega), Nat.div_eq_of_lt hj, Nat.add_zero]
  have h2 : (i * s + j) % s = j := by rw [Nat.mul_comm, Nat.mul_add_mod]; exact Nat.mod_eq_of_lt hj
  simp [flat, hlt, h1, h2]
theorem flat_some {U : Nat → Nat → Value} {m s q : Nat} {u : Value} (hs : 0 < s) (h : (flat U m s)[q]? = some u) : q / s < m ∧ q % s < s ∧ q = (q / s) * s + q % s ∧ u = U (q / s) (q % s) := by
  have hq : q < m * s := by rw [← flat_length U m s]; exact (List.getElem?_eq_some_iff.1 h).1
  refine ⟨div_lt_of hs hq, Nat.mod_lt _ hs, by rw [Nat.mul_comm]; exact (Nat.div_add_mod q s).symm, ?_⟩
  simpa [flat, hq] using h.symm
/-- What is appended: nothing, or cells that lie at an address. -/
structure Src (Γ : Cx) (w : World) (s m : Nat) (g : Nat → List D) (u : Value) : Prop where
  form : ∃ A c, u = .slice A m c
  len : ∀ i, i < m → (g i).length = s
  cells : 0 < m → ∃ (ad : Addr) (c : Nat) (U : Nat → Nat → Value), u = .slice (some ad) m c ∧ (∀ i j, i < m → j < s → w.cell? (ad.add (i * s + j)) = some (U i j)) ∧ (∀ i j d, i < m → (g i)[j]? = some d → RepD Γ.I w d (U i j)) ∧ ∀ i j, i < m → j < s → one (U i j) = true
theorem src_sl {s m : Nat} {g : Nat → List D} {u : Value} (h : RepD Γ.I w (.sl s m g) u) : Src Γ w s m g u := by
  cases h with
  | slE s f A c => exact ⟨⟨A, c, rfl⟩, by omega, by omega⟩
  | sl s n f ad c U hn hI hs hc hr =>
    refine ⟨⟨_, c, rfl⟩, hs, fun _ => ⟨ad, c, U, rfl, fun i j hi hj => ?_, hr, fun i j hi hj => ?_⟩⟩
    · have hl : j < (g i).length := by rw [hs i hi]; exact hj
      exact hc i j _ hi (List.getElem?_eq_getElem hl)
    · have hl : j < (g i).length := by rw [hs i hi]; exact hj
      exact repD_one (hr i j _ hi (List.getElem?_eq_getElem hl))
theorem src_ms {s m m' i : Nat} {e : TypeId} {g : Nat → List D} {fz : Bool} {u : Value} (hst : StoreOk Γ w σ) (hg : get σ i = some (.row e s m' g fz)) (h : RepC Γ w (.ms i m) u) (hm : m ≤ m') : Src Γ w s m g u := by
  obtain ⟨b, hb, hu⟩ := h
  obtain ⟨b', hb', hok⟩ := hst.ok i _ hg
  rw [hb] at hb'; cases hb'
  rcases hu with ⟨rfl, hκ, rfl⟩ | ⟨c, hκ, rfl⟩
  · exact ⟨⟨none, 0, rfl⟩, by omega, by omega⟩
  · rcases hok with ⟨h1, _⟩ | ⟨c', h1, _, _, h4, _, h6, xs, h7, h8, h9⟩
    · rw [hκ] at h1; cases h1
    · have hx : ∀ i j, i < m → j < s → ∃ x, xs[i * s + j]? = some x ∧ ∃ d, (g i)[j]? = some d ∧ RepD Γ.I w d x := fun i j hi hj => by
        have hl : j < (g i).length := by rw [h6 i (by omega)]; exact hj
        obtain ⟨x, hx, hr⟩ := h9 i j _ (by omega) (List.getElem?_eq_getElem hl)
        exact ⟨x, hx, _, List.getElem?_eq_getElem hl, hr⟩
      refine ⟨⟨_, c, rfl⟩, fun i hi => h6 i (by omega), fun _ => ⟨⟨b, 0, none⟩, c, fun i j => xs.getD (i * s + j) undef, rfl, fun i j hi hj => ?_, fun i j d hi hd => ?_, fun i j hi hj => ?_⟩⟩
      · obtain ⟨x, hx, _⟩ := hx i j hi hj
        rw [cell_at h7, Nat.zero_add, hx]; exact congrArg some (arr_getD hx).symm
      · obtain ⟨x, hx, hr⟩ := h9 i j d (by omega) hd
        show RepD _ _ _ (xs.getD (i * s + j) undef)
        rw [arr_getD hx]; exact hr
      · obtain ⟨x, hx, d, _, hr⟩ := hx i j hi hj
        show one (xs.getD (i * s + j) undef) = true
        rw [arr_getD hx]; exact repD_one hr
theorem Src.news {s m : Nat} {g : Nat → List D} {u : Value} (h : Src Γ w s m g u) (hs : 0 < s) (hm : 0 < m) : ∃ ad c U, u = .slice (some ad) m c ∧ (∀ (q : Nat) v, (flat U m s)[q]? = some v → w.cell? (ad.add q) = some v) ∧
    (∀ v ∈ flat U m s, v.oneCell' = true) ∧ ∀ i j d, i < m → (g i)[j]? = some d → RepD Γ.I w d (U i j) := by
  obtain ⟨ad, c, U, hu, hc, hr, h1⟩ := h.cells hm
  refine ⟨ad, c, U, hu, fun q v hq => ?_, fun v hv => ?_, hr⟩
  · obtain ⟨h2, h3, h4, rfl⟩ := flat_some hs hq
    have := hc _ _ h2 h3
    rw [← h4] at this; exact this
  · obtain ⟨q, hq⟩ := List.getElem?_of_mem hv
    obtain ⟨h2, h3, _, rfl⟩ := flat_some hs hq
    exact one_oneCell' (h1 _ _ h2 h3)
/-- Nothing appended. -/
theorem append_zero {t ty e : TypeId} (ht : P.underlying t = some (.slice e)) {s : Nat} (hn : sizeT P e = some s) (A B : Option Addr) (n cap c : Nat) (hnc : n ≤ cap) :
    (Builtin.append_ #[t, t] ty #[.slice A n cap, .slice B 0 c]).run P w = .ok (.slice A n cap) w := by
  have hf : (Builtin.firstCells s 0 (.slice B 0 c)).run P w = .ok #[] w := by
    cases B with
    | none => rfl
    | some b => simp [Builtin.firstCells, loadCells, loadCellsFrom]
  have hnot : ∀ k, ¬ (P.underlying t = some (.int k)) := fun k h => by rw [ht] at h; cases h
  cases A with
  | none => simp [Builtin.append_, run_underlying ht, run_sizeT hn, Builtin.lenOf, hnc, hf]
  | some a => simp [Builtin.append_, run_underlying ht, run_sizeT hn, Builtin.lenOf, hnc, hf, storeCells]
/-- Appended to a slice without room: a new block. -/
theorem append_fresh {t ty e : TypeId} {i : TypeInfo} {z : Value} (ht : P.underlying t = some (.slice e)) (hi : P.info? e = some i) (hz : i.zero = some z) (A : Option Addr) (a : Addr) (m c : Nat) (news : List Value) (hl : news.length = m * i.size)
    (hnews : ∀ (j : Nat) v, news[j]? = some v → w.cell? (a.add j) = some v) (h0 : 0 < m) (h63 : (m : Int) ≤ 9223372036854775807) (h48 : m * i.bytes ≤ 281474976710656) :
    (Builtin.append_ #[t, t] ty #[.slice A 0 0, .slice (some a) m c]).run P w =
      .ok (.slice (some ⟨w.heap.size, 0, none⟩) m (grownCap w m 0 e)) (w.drew.alloc (.cells (news.toArray ++ Builtin.zeroCells z.cells (grownCap w m 0 e - m)) e)) := by
  cases A with
  | none => exact run_append_nil (P := P) w t ty e i z ht hi hz a m c news hl hnews h0 h63 h48
  | some b =>
    have := run_append_grow (P := P) w t ty e i z ht hi hz b 0 0 [] (by simp) (by simp) a m c news hl hnews (by omega) (by simpa using h63) (by rw [Nat.zero_add, nextslicecap_zero h0]; exact h48)
    simpa using this
theorem zeroCells_size (z : Array Value) (n : Nat) : (Builtin.zeroCells z n).size = n * z.size := size_zeroCells z n
theorem growBy_le (newLen : Nat) : ∀ (r c : Nat), c ≤ 2 * newLen → Builtin.growBy newLen r c ≤ 2 * newLen ∨ Builtin.growBy newLen r c ≤ newLen + (newLen + 768) / 4
  | 0, c, h => .inl h
  | r + 1, c, h => by
    simp only [Builtin.growBy]
    split
    · exact .inl h
    · rename_i hc
      by_cases h2 : c + (c + 768) / 4 ≤ 2 * newLen
      · exact growBy_le newLen r _ h2
      · cases r with
        | zero => simp only [Builtin.growBy]; right; omega
        | succ r =>
          simp only [Builtin.growBy]
          rw [if_pos (by omega)]; right; omega
theorem nextslicecap_bound (n old : Nat) (h : old < n) : Builtin.nextslicecap n old ≤ 2 * n := by
  unfold Builtin.nextslicecap
  split
  · omega
  · split
    · omega
    · rename_i h1 h2
      rcases growBy_le n 4 old (by omega) with h3 | h3
      · exact h3
      · omega
/-- The rows of an append: the old ones, then the new. -/
theorem rows_app {s n m : Nat} {f g : Nat → List D} {xs : Array Value} {I : Nat → Prop} (hf : ∀ (i j : Nat) d, i < n → (f i)[j]? = some d → ∃ x, xs[i * s + j]? = some x ∧ RepD I w d x)
    (hg : ∀ (i j : Nat) d, i < m → (g i)[j]? = some d → ∃ x, xs[(n + i) * s + j]? = some x ∧ RepD I w d x) :
    ∀ (i j : Nat) d, i < n + m → (if i < n then f i else g (i - n))[j]? = some d → ∃ x, xs[i * s + j]? = some x ∧ RepD I w d x := fun i j d hi hd => by
  split at hd
  · rename_i h; exact hf i j d h hd
  · rename_i h
    obtain ⟨x, hx, hr⟩ := hg (i - n) j d (by omega) hd
    exact ⟨x, by rw [← hx]; congr 2; rw [Nat.add_sub_cancel' (by omega)], hr⟩
theorem same_drew {o : Obj} (h : StoreOk Γ w σ) : Same Γ.I w (w.drew.alloc o) := fun k hI => heap_alloc (w := w.drew) (h.im k hI)
/-- A fresh slice by append: owned, or closed at once. -/
theorem fresh_own {e : TypeId} {s m cap : Nat} {g : Nat → List D} {xs : Array Value} (hst : StoreOk Γ w σ) (hid : Γ.ρ id = none) (hbase : base ≤ id) (hm : m ≤ cap) (hc : cap ≤ maxLen) (hl : xs.size = cap * s) (hg : ∀ i, i < m → (g i).length = s)
    (hr : ∀ (i j : Nat) d, i < m → (g i)[j]? = some d → ∃ x, xs[i * s + j]? = some x ∧ RepD Γ.I w d x) (r : Result Next) (hrun : r = .ok (.value (.slice (some ⟨w.heap.size, 0, none⟩) m cap)) (w.drew.alloc (.cells xs e))) :
    Gives base Γ w σ id (.c (.ms id m)) ((id, .row e s m g false) :: σ) (id + 1) r := by
  have hnI : ¬ Γ.I w.heap.size := fun hI => Nat.lt_irrefl _ (hst.im _ hI)
  have hnL : ¬ Live Γ σ w.heap.size := fun hl => Nat.lt_irrefl _ (hst.live_lt hl)
  have hh : (w.drew.alloc (.cells xs e)).heap[w.heap.size]? = some (.cells xs e (0, 0)) := heap_alloc_new' w.drew _
  have he : EntOk (Γ.upd id w.heap.size (some cap)) (w.drew.alloc (.cells xs e)) id w.heap.size (.row e s m g false) :=
    .inr ⟨cap, upd_κ_same, (fun hf => by cases hf), fun _ => hnI, hm, hc, hg, xs, hh, hl, fun i j d hi hd => by
      obtain ⟨x, hx, hrr⟩ := hr i j d hi hd
      exact ⟨x, hx, hrr.mono (fun _ h => h) (same_drew hst)⟩⟩
  refine ⟨_, _, Γ.upd id w.heap.size (some cap), .inl hrun, .c _ _ ⟨_, upd_ρ_same, .inr ⟨_, upd_κ_same, rfl⟩⟩, hst.fresh hid (by simp) (fun k hk _ => heap_alloc (w := w.drew) hk) (fun _ => hnL) (.inr ⟨hnI, hnL⟩) he, CxLe.upd _ _ _ hid,
    Ext.grow (Γ := Γ) (w := w) (w' := w.drew.alloc (.cells xs e)) (fun i hi => upd_ρ (by omega)) (fun i hi => upd_κ (by omega)) (fun _ h => h) (fun _ h => .inl h) rfl rfl rfl (by simp) (fun k hk _ => heap_alloc (w := w.drew) hk) _ (fun k hk => ?_), fun i hi => upd_ρ hi, .inr rfl⟩
  rcases live_fresh hst hid hk with h1 | ⟨rfl, _⟩
  · exact .inl h1
  · exact .inr (Nat.le_refl _)
theorem fresh_still {e : TypeId} {s m cap : Nat} {g : Nat → List D} {xs : Array Value} (hst : StoreOk Γ w σ) (hm : m ≤ cap) (hg : ∀ i, i < m → (g i).length = s)
    (hr : ∀ (i j : Nat) d, i < m → (g i)[j]? = some d → ∃ x, xs[i * s + j]? = some x ∧ RepD Γ.I w d x) (r : Result Next) (hrun : r = .ok (.value (.slice (some ⟨w.heap.size, 0, none⟩) m cap)) (w.drew.alloc (.cells xs e))) :
    Gives base Γ w σ id (.c (.d (.sl s m g))) σ id r := by
  have hle : CxLe Γ (Γ.also fun k => k = w.heap.size) := CxLe.also _ _
  refine ⟨_, _, Γ.also fun k => k = w.heap.size, .inl hrun, .c _ _ ?_, hst.keep hle (fun k hI => ?_) (same_drew hst) (fun k hl => heap_alloc (w := w.drew) (hst.live_lt hl)) (fun k hl hI => ?_), hle,
    Ext.grow (Γ := Γ) (Γ' := Γ.also fun k => k = w.heap.size) (w := w) (w' := w.drew.alloc (.cells xs e)) (fun _ _ => rfl) (fun _ _ => rfl) (fun _ h => .inl h) (fun k h => h.imp (fun h => h) (fun e => .inl (Nat.le_of_eq e.symm))) rfl rfl rfl (by simp) (fun k hk _ => heap_alloc (w := w.drew) hk) _ (fun k hk => .inl (live_also.1 hk)), fun _ _ => rfl, .inl ⟨rfl, rfl⟩⟩
  · refine .sl _ _ _ _ _ (fun i j => xs.getD (i * s + j) undef) hm (.inr rfl) hg (fun i j d hi hd => ?_) (fun i j d hi hd => ?_)
    · obtain ⟨x, hx, _⟩ := hr i j d hi hd
      rw [cell_at (b := w.heap.size) (heap_alloc_new' w.drew _), Nat.zero_add, hx]; exact congrArg some (arr_getD hx).symm
    · obtain ⟨x, hx, hrr⟩ := hr i j d hi hd
      show RepD _ _ _ (xs.getD (i * s + j) undef)
      rw [arr_getD hx]; exact hrr.mono (fun _ h => .inl h) (same_drew hst)
  · rcases hI with hI | rfl
    · have := hst.im k hI; simp; omega
    · simp
  · rcases hI with hI | rfl
    · exact hst.not_live hI hl
    · exact Nat.lt_irrefl _ (hst.live_lt hl)
theorem op_append {own : Bool} {t e : TypeId} {x y : Operand} {s b : Nat} {z : List Value} {c : Call} (ho : o.op = .call c) (hc : c.callee = .builtin .append) (hargs : c.args.toList = [x, y]) (htys : c.argTypes.toList = [t, t])
    (ht : P.underlying t = some (.slice e)) (hn : sizeT P e = some s) (hb : bytesT P e = some b) (hz : zeroOf P e = some z) (hs0 : 0 < s) (hb0 : 0 < b) (hzl : z.length = s)
    (hev : ∀ x, RepV Γ w (ev x) (ρ x)) (hst : StoreOk Γ w σ) (hid : Γ.ρ id = none) (hbase : base ≤ id) (hx : xop ev σ id (.append own e s b x y) = some (ob, v, σ', nx')) (hob : ob) : Gives base Γ w σ id v σ' nx' ((execOp ρ o).run P w) := by
  obtain ⟨i, zv, hi, hzv, hzc, h1, hsz⟩ := zeroOf_spec hz
  have hargs' : c.args = #[x, y] := by rw [← Array.toArray_toList (xs := c.args), hargs]
  have htys' : c.argTypes = #[t, t] := by rw [← Array.toArray_toList (xs := c.argTypes), htys]
  have hib : i.bytes = b := by unfold bytesT at hb; rw [hi] at hb; simpa using hb
  have hzs : zv.cells.size = s := by rw [← hzl, ← hzc]; simp
  have his : i.size = s := by rw [hsz, hzl]
  have hexec : (execOp ρ o).run P w = ((Builtin.append_ #[t, t] o.type #[ρ x, ρ y]).run P w).andThen fun u w' => .ok (.value u) w' := by
    simp [execOp, ho, resolve, hc, hargs', htys', invoke, builtin]
  have hmaxof : ∀ k : Nat, k * b ≤ 140737488355328 → k ≤ 140737488355328 := fun k hk => by
    have : k * 1 ≤ k * b := Nat.mul_le_mul_left _ hb0
    omega
  -- a slice without room, something appended
  have fresh : ∀ (A : Option Addr) (m : Nat) (g : Nat → List D), ρ x = .slice A 0 0 → Src Γ w s m g (ρ y) → 0 < m → m * b ≤ 140737488355328 →
      ∃ cap xs, m ≤ cap ∧ cap ≤ maxLen ∧ xs.size = cap * s ∧ (∀ (i j : Nat) d, i < m → (g i)[j]? = some d → ∃ x, xs[i * s + j]? = some x ∧ RepD Γ.I w d x) ∧
        (execOp ρ o).run P w = .ok (.value (.slice (some ⟨w.heap.size, 0, none⟩) m cap)) (w.drew.alloc (.cells xs e)) := fun A m g hA hsrc hm hmb => by
    obtain ⟨ad, cc, U, hu, hnews, hone, hr⟩ := hsrc.news hs0 hm
    have hmm := hmaxof m hmb
    have hrun := append_fresh (P := P) (w := w) (t := t) (ty := o.type) ht hi hzv A ad m cc (flat U m s) (by rw [flat_length, his]) hnews hm (by omega) (by rw [hib]; omega)
    refine ⟨grownCap w m 0 e, (flat U m s).toArray ++ Builtin.zeroCells zv.cells (grownCap w m 0 e - m), grownCap_ge w m 0 e, grownCap_le_maxLen w m 0 e (by unfold maxLen; omega), ?_, fun i j d hi hd => ?_, ?_⟩
    · rw [Array.size_append, zeroCells_size, hzs, List.size_toArray, flat_length, ← Nat.add_mul, Nat.add_sub_cancel' (grownCap_ge w m 0 e)]
    · have hj : j < s := by rw [← hsrc.len i hi]; exact (List.getElem?_eq_some_iff.1 hd).1
      have hlt : i * s + j < (flat U m s).length := by
        have := flat_get (U := U) hi hj; exact (List.getElem?_eq_some_iff.1 this).1
      refine ⟨U i j, ?_, hr i j d hi hd⟩
      rw [Array.getElem?_append_left (by simpa using hlt)]
      simpa using flat_get (U := U) hi hj
    · rw [hexec, hA, hu, hrun]; rfl
  -- nothing appended
  have zero : ∀ (A : Option Addr) (n cap : Nat) (g : Nat → List D), ρ x = .slice A n cap → n ≤ cap → Src Γ w s 0 g (ρ y) → (execOp ρ o).run P w = .ok (.value (.slice A n cap)) w := fun A n cap g hA hnc hsrc => by
    obtain ⟨B, cc, hu⟩ := hsrc.form
    rw [hexec, hA, hu, append_zero ht hn A B n cap cc hnc]; rfl
  have hrx := hev x
  have hry := hev y
  have hrowsrc : ∀ {s2 m : Nat} {g : Nat → List D}, ev y = .c (.d (.sl s2 m g)) → s = s2 → Src Γ w s m g (ρ y) := fun hv h => by
    rw [hv] at hry; subst h
    cases hry with | c _ u hr => exact src_sl hr
  have still : ∀ (A : Option Addr) (m : Nat) (g : Nat → List D), ρ x = .slice A 0 0 → Src Γ w s m g (ρ y) → m * b ≤ 140737488355328 → Gives base Γ w σ id (.c (.d (.sl s m g))) σ id ((execOp ρ o).run P w) := fun A m g hA hsrc hmb => by
    rcases Nat.eq_zero_or_pos m with h0 | h0
    · subst h0
      exact Gives.same hst (zero A 0 0 g hA (Nat.le_refl _) hsrc) (.c _ _ (.slE _ _ _ _))
    · obtain ⟨cap, xs, h1, h2, h3, h4, h5⟩ := fresh A m g hA hsrc h0 hmb
      exact fresh_still hst h1 hsrc.len h4 _ h5
  have ownf : ∀ (A : Option Addr) (m : Nat) (g : Nat → List D), ρ x = .slice A 0 0 → (A = none ∨ 0 < m) → Src Γ w s m g (ρ y) → m * b ≤ 140737488355328 → Gives base Γ w σ id (.c (.ms id m)) ((id, .row e s m g false) :: σ) (id + 1) ((execOp ρ o).run P w) := fun A m g hA hor hsrc hmb => by
    rcases Nat.eq_zero_or_pos m with h0 | h0
    · subst h0
      rcases hor with rfl | hor
      · have hb := name_nil (base := base) hst hid hbase e s g
        exact ⟨_, _, _, .inl (zero none 0 0 g hA (Nat.le_refl _) hsrc), .c _ _ ⟨_, upd_ρ_same, .inl ⟨rfl, upd_κ_same, rfl⟩⟩, hb.1, CxLe.upd _ _ _ hid, hb.2, fun i hi => upd_ρ hi, .inr rfl⟩
      · omega
    · obtain ⟨cap, xs, h1, h2, h3, h4, h5⟩ := fresh A m g hA hsrc h0 hmb
      exact fresh_own hst hid hbase h1 h2 h3 hsrc.len h4 _ h5
  have hnil : ev x = .c (.d (.v (.slice none 0 0))) → ρ x = .slice none 0 0 := fun hv => by
    rw [hv] at hrx
    generalize ρ x = u at hrx
    cases hrx with | c _ u hr => cases (show RepD Γ.I w _ u from hr); rfl
  have hzz : ev x = .c .z → ∃ A, ρ x = .slice A 0 0 := fun hv => by
    rw [hv] at hrx
    cases hrx with | c _ u hr => exact hr
  simp only [xop] at hx
  split at hx
  · -- an owned row grows
    rename_i i0 n s2 m g hvx hvy
    split at hx
    · rename_i e' s' n' f hg
      split at hx
      · rename_i q1 q2 q3
        have q1 := Nat.eq_of_beq_eq_true q1
        have q2 := Nat.eq_of_beq_eq_true q2
        have q3 := Nat.eq_of_beq_eq_true q3
        subst q1; subst q2
        rw [frs_eq] at hx
        simp only [Option.some.injEq, Prod.mk.injEq] at hx; obtain ⟨rfl, rfl, rfl, rfl⟩ := hx
        obtain ⟨rfl, hsize⟩ := hob
        have hsrc := hrowsrc hvy q3
        have hnm := hmaxof _ hsize
        rw [hvx] at hrx
        cases hrx with | c _ u hr =>
        obtain ⟨b0, hb0', hux⟩ := hr
        obtain ⟨b1, hb1, hok⟩ := hst.ok i0 _ hg
        rw [hb0'] at hb1; cases hb1
        rcases hux with ⟨rfl, hκ, hux⟩ | ⟨cap, hκ, hux⟩
        · -- nil
          have hnB : ¬ HasB Γ i0 (.row e s 0 f false) := fun ⟨c, hc⟩ => by rw [hκ] at hc; cases hc
          rcases Nat.eq_zero_or_pos m with h0 | h0
          · subst h0
            have hmv := hst.moved (base := base) (w' := w) (b := 0) (κ := none) (e := .row e s (0 + 0) (fun i => if i < 0 then f i else g (i - 0)) false) hg hid hbase rfl rfl rfl (Nat.le_refl _) (fun _ _ _ => rfl) (.inr hnB) (.inr (.inr (fun ⟨_, c, hc⟩ => by rw [upd_κ_same] at hc; cases hc))) (.inl ⟨upd_κ_same, rfl⟩)
            exact ⟨_, _, _, .inl (zero none 0 0 g hux (Nat.le_refl _) hsrc), .c _ _ ⟨_, upd_ρ_same, .inl ⟨rfl, upd_κ_same, rfl⟩⟩, hmv.1, CxLe.upd _ _ _ hid, hmv.2, fun i hi => upd_ρ hi, .inr rfl⟩
          · obtain ⟨cap, xs, h1, h2, h3, h4, h5⟩ := fresh none m g hux hsrc h0 (by simpa using hsize)
            have he : EntOk (Γ.upd id w.heap.size (some cap)) (w.drew.alloc (.cells xs e)) id w.heap.size (.row e s (0 + m) (fun i => if i < 0 then f i else g (i - 0)) false) :=
              .inr ⟨cap, upd_κ_same, (fun hf => by cases hf), fun _ hI => Nat.lt_irrefl _ (hst.im _ hI), by omega, h2, fun i hi => by dsimp only; rw [if_neg (by omega), Nat.sub_zero]; exact hsrc.len i (by omega), xs, heap_alloc_new' w.drew _, h3, fun i j d hi hd => by
                obtain ⟨x, hx, hrr⟩ := h4 i j d (by omega) (by simpa using hd)
                exact ⟨x, hx, hrr.mono (fun _ h => h) (same_drew hst)⟩⟩
            have hmv := hst.moved (base := base) (w' := w.drew.alloc (.cells xs e)) (b := w.heap.size) (κ := some cap) hg hid hbase rfl rfl rfl (by simp) (fun k hk _ => heap_alloc (w := w.drew) hk) (.inr hnB) (.inr (.inl (Nat.le_refl _))) he
            exact ⟨_, _, _, .inl h5, .c _ _ ⟨_, upd_ρ_same, .inr ⟨cap, upd_κ_same, by rw [Nat.zero_add]⟩⟩, hmv.1, CxLe.upd _ _ _ hid, hmv.2, fun i hi => upd_ρ hi, .inr rfl⟩
        · -- a block of its own
          rcases hok with ⟨h1, _⟩ | ⟨cap', hk1, _, hnI, hncap, hcm, hfl, xs, hh, hxs, hcells⟩
          · rw [hκ] at h1; cases h1
          · rw [hκ] at hk1; cases hk1
            have hnI := hnI rfl
            have hlive : LiveE Γ i0 (.row e s n f false) := ⟨rfl, cap, hκ⟩
            have hB : HasB Γ i0 (.row e s n f false) := ⟨cap, hκ⟩
            rcases Nat.eq_zero_or_pos m with h0 | h0
            · subst h0
              have he : EntOk (Γ.upd id b0 (some cap)) w id b0 (.row e s (n + 0) (fun i => if i < n then f i else g (i - n)) false) :=
                .inr ⟨cap, upd_κ_same, (fun hf => by cases hf), fun _ => hnI, hncap, hcm, fun i hi => by dsimp only; rw [if_pos (by omega)]; exact hfl i (by omega), xs, hh, hxs, fun i j d hi hd => by
                  dsimp only at hd; rw [if_pos (by omega)] at hd; exact hcells i j d (by omega) hd⟩
              have hmv := hst.moved (base := base) (w' := w) (b := b0) (κ := some cap) hg hid hbase rfl rfl rfl (Nat.le_refl _) (fun _ _ _ => rfl) (.inl hlive) (.inl ⟨hb0', hB⟩) he
              exact ⟨_, _, _, .inl (zero _ n cap g hux hncap hsrc), .c _ _ ⟨_, upd_ρ_same, .inr ⟨cap, upd_κ_same, rfl⟩⟩, hmv.1, CxLe.upd _ _ _ hid, hmv.2, fun i hi => upd_ρ hi, .inr rfl⟩
            · obtain ⟨ad, cc, U, hu, hnews, hone, hr⟩ := hsrc.news hs0 h0
              have hUcell : ∀ (i j : Nat) d, i < m → (g i)[j]? = some d → (flat U m s)[i * s + j]? = some (U i j) ∧ i * s + j < (flat U m s).length := fun i j d hi hd => by
                have hj : j < s := by rw [← hsrc.len i hi]; exact (List.getElem?_eq_some_iff.1 hd).1
                have := flat_get (U := U) hi hj
                exact ⟨this, (List.getElem?_eq_some_iff.1 this).1⟩
              have hflen : ∀ i, i < n + m → (if i < n then f i else g (i - n)).length = s := fun i hi => by
                split
                · rename_i h; exact hfl i h
                · exact hsrc.len _ (by omega)
              by_cases hroom : n + m ≤ cap
              · -- room
                have hfit : n * i.size + (flat U m s).length ≤ xs.size := by rw [flat_length, his, hxs, ← Nat.add_mul]; exact Nat.mul_le_mul_right _ hroom
                have hrun := run_append_room (P := P) w t o.type e i ht hi b0 n cap xs hh ad m cc (flat U m s) (by rw [flat_length, his]) hnews hone hroom hfit
                rw [his] at hrun hfit
                generalize hxs' : (xs.toList.take (n * s) ++ flat U m s ++ xs.toList.drop (n * s + (flat U m s).length)).toArray = xs' at hrun
                have hns : n * s ≤ xs.size := by omega
                have hsz' : xs'.size = cap * s := by rw [← hxs', ← hxs]; simp; omega
                have hsame : Same Γ.I w (w.setRow b0 xs') := fun k hI => setRow_other w b0 k xs' (fun e => hnI (e ▸ hI))
                have he : EntOk (Γ.upd id b0 (some cap)) (w.setRow b0 xs') id b0 (.row e s (n + m) (fun i => if i < n then f i else g (i - n)) false) :=
                  .inr ⟨cap, upd_κ_same, (fun hf => by cases hf), fun _ => hnI, hroom, hcm, hflen, xs', setRow_heap w b0 xs xs' e _ hh, hsz', rows_app (fun i j d hi hd => by
                    obtain ⟨x, hx, hrr⟩ := hcells i j d hi hd
                    have hj : j < s := by rw [← hfl i hi]; exact (List.getElem?_eq_some_iff.1 hd).1
                    have hlt : i * s + j < n * s := by
                      have : (i + 1) * s ≤ n * s := Nat.mul_le_mul_right _ hi
                      rw [Nat.add_mul] at this; omega
                    refine ⟨x, ?_, hrr.mono (fun _ h => h) hsame⟩
                    rw [← hxs', List.getElem?_toArray, List.append_assoc, List.getElem?_append_left (by simp; omega), List.getElem?_take, if_pos hlt]
                    simpa using hx) (fun i j d hi hd => by
                    obtain ⟨h3, h4⟩ := hUcell i j d hi hd
                    refine ⟨U i j, ?_, (hr i j d hi hd).mono (fun _ h => h) hsame⟩
                    rw [← hxs', List.getElem?_toArray, List.append_assoc, List.getElem?_append_right (by simp; rw [Nat.add_mul]; omega), List.getElem?_append_left (by simp; rw [Nat.add_mul]; omega), ← h3]
                    congr 1; simp; rw [Nat.add_mul]; omega)⟩
                have hmv := hst.moved (base := base) (w' := w.setRow b0 xs') (b := b0) (κ := some cap) hg hid hbase rfl rfl rfl (by simp) (fun k _ hk => setRow_other w b0 k xs' (hk b0 hb0' hB)) (.inl hlive) (.inl ⟨hb0', hB⟩) he
                exact ⟨_, _, _, .inl (by rw [hexec, hux, hu, hrun]; rfl), .c _ _ ⟨_, upd_ρ_same, .inr ⟨cap, upd_κ_same, rfl⟩⟩, hmv.1, CxLe.upd _ _ _ hid, hmv.2, fun i hi => upd_ρ hi, .inr rfl⟩
              · -- a new block
                have holds : ∀ (j : Nat) v, (xs.toList.take (n * s))[j]? = some v → w.cell? ((⟨b0, 0, none⟩ : Addr).add j) = some v := fun j v hj => by
                  rw [List.getElem?_take] at hj
                  split at hj
                  · rw [cell_at hh, Nat.zero_add]; simpa using hj
                  · cases hj
                have hns : n * s ≤ xs.size := by rw [hxs]; exact Nat.mul_le_mul_right _ hncap
                have hcapn : Builtin.nextslicecap (n + m) cap * i.bytes ≤ 281474976710656 := by
                  have := nextslicecap_bound (n + m) cap (by omega)
                  rw [hib]
                  calc Builtin.nextslicecap (n + m) cap * b ≤ (2 * (n + m)) * b := Nat.mul_le_mul_right _ this
                    _ ≤ 281474976710656 := by rw [Nat.mul_assoc]; omega
                have hrun := run_append_grow (P := P) w t o.type e i zv ht hi hzv ⟨b0, 0, none⟩ n cap (xs.toList.take (n * s)) (by simp [his]; omega) holds ad m cc (flat U m s) (by rw [flat_length, his]) hnews (by omega) (by omega) hcapn
                generalize hxs' : (xs.toList.take (n * s)).toArray ++ (flat U m s).toArray ++ Builtin.zeroCells zv.cells (grownCap w (n + m) cap e - (n + m)) = xs' at hrun
                have hge := grownCap_ge w (n + m) cap e
                have hl1 : (xs.toList.take (n * s)).length = n * s := by simp; omega
                have hsz' : xs'.size = grownCap w (n + m) cap e * s := by
                  rw [← hxs', Array.size_append, Array.size_append, zeroCells_size, hzs, List.size_toArray, List.size_toArray, flat_length, hl1, ← Nat.add_mul, ← Nat.add_mul, Nat.add_sub_cancel' hge]
                have he : EntOk (Γ.upd id w.heap.size (some (grownCap w (n + m) cap e))) (w.drew.alloc (.cells xs' e)) id w.heap.size (.row e s (n + m) (fun i => if i < n then f i else g (i - n)) false) :=
                  .inr ⟨_, upd_κ_same, (fun hf => by cases hf), fun _ hI => Nat.lt_irrefl _ (hst.im _ hI), hge, grownCap_le_maxLen w (n + m) cap e (by unfold maxLen; omega), hflen, xs', heap_alloc_new' w.drew _, hsz', rows_app (fun i j d hi hd => by
                    obtain ⟨x, hx, hrr⟩ := hcells i j d hi hd
                    have hj : j < s := by rw [← hfl i hi]; exact (List.getElem?_eq_some_iff.1 hd).1
                    have hlt : i * s + j < n * s := by
                      have : (i + 1) * s ≤ n * s := Nat.mul_le_mul_right _ hi
                      rw [Nat.add_mul] at this; omega
                    refine ⟨x, ?_, hrr.mono (fun _ h => h) (same_drew hst)⟩
                    rw [← hxs', Array.append_assoc, Array.getElem?_append_left (by simp; omega)]
                    simp only [List.getElem?_toArray, List.getElem?_take, if_pos hlt]
                    simpa using hx) (fun i j d hi hd => by
                    obtain ⟨h3, h4⟩ := hUcell i j d hi hd
                    refine ⟨U i j, ?_, (hr i j d hi hd).mono (fun _ h => h) (same_drew hst)⟩
                    rw [← hxs', Array.append_assoc, Array.getElem?_append_right (by rw [List.size_toArray, hl1, Nat.add_mul]; omega), Array.getElem?_append_left (by rw [List.size_toArray, List.size_toArray, hl1, Nat.add_mul]; omega), List.getElem?_toArray, ← h3]
                    congr 1; rw [List.size_toArray, hl1, Nat.add_mul]; omega)⟩
                have hmv := hst.moved (base := base) (w' := w.drew.alloc (.cells xs' e)) (b := w.heap.size) (κ := some (grownCap w (n + m) cap e)) hg hid hbase rfl rfl rfl (by simp) (fun k hk _ => heap_alloc (w := w.drew) hk) (.inl hlive) (.inr (.inl (Nat.le_refl _))) he
                exact ⟨_, _, _, .inl (by rw [hexec, hux, hu, hrun]; rfl), .c _ _ ⟨_, upd_ρ_same, .inr ⟨_, upd_κ_same, rfl⟩⟩, hmv.1, CxLe.upd _ _ _ hid, hmv.2, fun i hi => upd_ρ hi, .inr rfl⟩
      · cases hx
    · cases hx
  · rename_i s2 m g hvx hvy
    split at hx
    · rename_i q
      have q := Nat.eq_of_beq_eq_true q
      simp only [Option.some.injEq, Prod.mk.injEq] at hx; obtain ⟨rfl, rfl, rfl, rfl⟩ := hx
      exact ownf none m g (hnil hvx) (.inl rfl) (hrowsrc hvy q) hob
    · cases hx
  · rename_i s2 m g hvx hvy
    split at hx
    · rename_i q
      have q := Nat.eq_of_beq_eq_true q
      simp only [Option.some.injEq, Prod.mk.injEq] at hx; obtain ⟨rfl, rfl, rfl, rfl⟩ := hx
      obtain ⟨A, hA⟩ := hzz hvx
      exact ownf A m g hA (.inr hob.1) (hrowsrc hvy q) hob.2
    · cases hx
  · rename_i s2 m g hvx hvy
    split at hx
    · rename_i q
      have q := Nat.eq_of_beq_eq_true q
      simp only [Option.some.injEq, Prod.mk.injEq] at hx; obtain ⟨rfl, rfl, rfl, rfl⟩ := hx
      exact still none m g (hnil hvx) (hrowsrc hvy q) hob
    · cases hx
  · rename_i s2 m g hvx hvy
    split at hx
    · rename_i q
      have q := Nat.eq_of_beq_eq_true q
      simp only [Option.some.injEq, Prod.mk.injEq] at hx; obtain ⟨rfl, rfl, rfl, rfl⟩ := hx
      obtain ⟨A, hA⟩ := hzz hvx
      exact still A m g hA (hrowsrc hvy q) hob
    · cases hx
  · rename_i i1 m hvx hvy
    split at hx
    · rename_i e1 s2 m' g fz hg
      split at hx
      · rename_i q
        have q := Nat.eq_of_beq_eq_true q
        subst q
        simp only [Option.some.injEq, Prod.mk.injEq] at hx; obtain ⟨rfl, rfl, rfl, rfl⟩ := hx
        obtain ⟨A, hA⟩ := hzz hvx
        rw [hvy] at hry
        cases hry with | c _ u hr =>
        exact still A m g hA (src_ms hst hg hr hob.1) hob.2
      · cases hx
    · cases hx
  · cases hx
end
end Go.Pw

namespace Go.Pw
open Go Go.RowKit
section
variable {P : Program} {base : Nat} {Γ : Cx} {w : World} {σ σ' : Store} {id nx' : Nat} {o : Oper} {ρ : Operand → Value} {ev : Operand → V} {ob : Prop} {v : V}
theorem xop_sound {own : Bool} (hev : ∀ x, RepV Γ w (ev x) (ρ x)) (hst : StoreOk Γ w σ) (hid : Γ.ρ id = none) (hbase : base ≤ id)
    (hx : xop ev σ id (lowOp P own o) = some (ob, v, σ', nx')) (hob : ob) : Gives base Γ w σ id v σ' nx' ((execOp ρ o).run P w) := by
  have hx := low_xop hx
  rcases h : lowOp' P own o with _ | lo
  · rw [h] at hx; simp [xop] at hx
  · rw [h] at hx
    simp only [Option.getD_some] at hx
    unfold lowOp' at h
    split at h
    · rename_i x hop; cases h; exact op_mv (.inl hop) hev hst hx
    · rename_i x hop; cases h; exact op_mv (.inr hop) hev hst hx
    · rename_i x hop; cases h; exact op_nilc hop hev hst hx
    · rename_i c a b hop; cases h; exact op_pick hop hev hst hx
    · rename_i e hop
      obtain ⟨z, hz, rfl⟩ := Option.map_eq_some_iff.1 h
      exact op_alloc hop hz hst hid hbase hx
    · rename_i e x hop; cases h; exact op_box hop hev hst hid hbase hx
    · rename_i t parts hop
      simp only [Option.bind_eq_bind, Option.bind_eq_some_iff] at h
      obtain ⟨z, hz, h⟩ := h
      split at h
      · rename_i fs hu
        split at h
        · rename_i hall
          obtain ⟨lp, hlp, rfl⟩ := Option.map_eq_some_iff.1 h
          exact op_build hop hz (.inl ⟨fs, hu, List.all_eq_true.1 hall, hlp⟩) hev hst hx
        · cases h
      · rename_i m e hu
        simp only [Option.bind_eq_some_iff] at h
        obtain ⟨n, hn, h⟩ := h
        cases h
        exact op_build hop hz (.inr ⟨m, e, n, hu, hn, rfl⟩) hev hst hx
      · cases h
    · rename_i t len parts hop
      split at h
      · rename_i e hu
        simp only [Option.bind_eq_bind, Option.bind_eq_some_iff] at h
        obtain ⟨s, hn, z, hz, xs, hxs, h⟩ := h
        split at h
        · rename_i hc
          cases h
          exact op_lit hop hu hn hz hxs hc.1 hc.2.1 hc.2.2.1 hev hst hid hbase hx
        · cases h
      · cases h
    · rename_i t a hop
      simp only [Option.bind_eq_bind, Option.bind_eq_some_iff] at h
      obtain ⟨g, hg, n, hn, h⟩ := h
      split at h
      · rename_i hc
        cases h
        exact op_load hop hg hn hc hev hst hx hob
      · cases h
    · rename_i t a x hop
      obtain ⟨n, hn, rfl⟩ := Option.map_eq_some_iff.1 h
      exact op_store hop hn hev hst hx hob
    · rename_i op t x y yt hop
      split at h
      · cases h
        split at hx
        · exact op_binW hop hev hst hx
        · exact op_bin hop hev hst hx hob
      · rename_i hu
        split at h
        · cases h; exact op_eqB (neg := false) hop hu rfl hev hst hx
        · cases h; exact op_eqB (neg := true) hop hu rfl hev hst hx
        · cases h
      · rename_i fs hu
        split at h
        · rename_i hc
          simp only [Bool.and_eq_true, Bool.not_eq_true'] at hc
          split at h
          · cases h; exact op_eqA (neg := false) hop hu hc.1.1 hc.1.2 hc.2 rfl hev hst hx
          · cases h; exact op_eqA (neg := true) hop hu hc.1.1 hc.1.2 hc.2 rfl hev hst hx
          · cases h
        · cases h
      · cases h
    · rename_i op t x hop; cases h; exact op_un hop hev hst hx hob
    · rename_i src dst x hop
      split at h
      · rename_i ks k hs hd
        cases h; exact op_conv hop hs hd hev hst hx hob
      · cases h
    · rename_i f first caps hop
      split at h
      · rename_i hf; cases h; exact op_mkfn hop hf hev hst hx
      · cases h
    · rename_i t l c hop
      split at h
      · rename_i e hu
        simp only [Option.bind_eq_bind, Option.bind_eq_some_iff] at h
        obtain ⟨s, hn, b, hb, z, hz, h⟩ := h
        split at h
        · split at h
          · rename_i hc
            obtain ⟨rfl, h1, h2, h3⟩ := hc
            cases h
            exact op_make hop hu hb hz ⟨rfl, rfl⟩ h2 h3 hev hst hid hbase hx hob
          · cases h
        · split at h
          · rename_i hc
            obtain ⟨rfl, rfl, h1, h2, h3⟩ := hc
            cases h
            exact op_make hop hu hb hz ⟨rfl, rfl⟩ h2 h3 hev hst hid hbase hx hob
          · cases h
        · cases h
      · cases h
    · rename_i t x lo hi hop
      split at h
      · rename_i e hu
        obtain ⟨s, hn, rfl⟩ := Option.map_eq_some_iff.1 h
        exact op_slc hop hu hn hev hst hx hob
      · cases h; simp [xop] at hx
      · cases h
    · rename_i t x f hop
      split at h
      · rename_i fs hu
        simp only [Option.bind_eq_bind, Option.bind_eq_some_iff] at h
        obtain ⟨fd, hf, n, hn, h⟩ := h
        split at h
        · cases h
        · rename_i h0
          cases h
          exact op_fld hop hu hf hn h0 hev hst hx
      · cases h
    · rename_i t x i hop
      split at h
      · rename_i e hu
        obtain ⟨s, hn, rfl⟩ := Option.map_eq_some_iff.1 h
        exact op_idx hop hu hn hev hst hx hob
      · rename_i n e hu
        obtain ⟨s, hn, rfl⟩ := Option.map_eq_some_iff.1 h
        exact op_idxA hop hu hn hev hst hx hob
      · cases h
    · rename_i t x f hop
      split at h
      · rename_i fs hu
        simp only [Option.bind_eq_bind, Option.bind_eq_some_iff] at h
        obtain ⟨fd, hf, g, hg, n, hn, h⟩ := h
        cases h
        exact op_part hop hu hf hg hn hev hst hx
      · cases h
    · rename_i t x i hop
      split at h
      · rename_i n e hu
        simp only [Option.bind_eq_bind, Option.bind_eq_some_iff] at h
        obtain ⟨g, hg, s, hs, h⟩ := h
        cases h
        exact op_index hop hu hg hs hev hst hx hob
      · rename_i hu
        cases h; exact op_indexS hop hu hev hst hx hob
      · cases h
    · rename_i x i hop; cases h; exact op_ext hop hev hst hx
    · rename_i c hop
      split at h
      · cases h; simp [xop] at hx
      · rename_i hc
        split at h
        · rename_i x t hargs htys
          split at h
          · rename_i e hu; cases h; exact op_len hop hc hargs htys hu hev hst hx
          · rename_i hu; cases h; exact op_lenS hop hc hargs htys hu hev hst hx
          · cases h
        · cases h
      · rename_i hc
        split at h
        · rename_i x y t t' hargs htys
          split at h
          · rename_i htt
            subst htt
            split at h
            · rename_i e hu
              simp only [Option.bind_eq_bind, Option.bind_eq_some_iff] at h
              obtain ⟨s, hn, b, hb, z, hz, h⟩ := h
              split at h
              · rename_i hcc
                cases h
                exact op_append hop hc hargs htys hu hn hb hz hcc.1 hcc.2.1 hcc.2.2 hev hst hid hbase hx hob
              · cases h
            · cases h
          · cases h
        · cases h
      · rename_i hc; cases h; exact op_mm (isMax := false) hop hc hev hst hx
      · rename_i hc; cases h; exact op_mm (isMax := true) hop hc hev hst hx
      · cases h
    · cases h
end
end Go.Pw

namespace Go.Pw
open Go Go.RowKit
/-- The wide fence, in a frame of the given make. -/
def FW (ro : Option Nat) : Fence := { Fence.wide with round := ro }
def mkD (D : Nat) : Deferred := { target := .collected D, args := #[] }
structure Conc (N B0 base : Nat) (Γ : Cx) (w : World) (st : St) (a : Act) : Prop where
  size : a.tmps.size = N
  env : ∀ t, RepV Γ w (lk st.env t) (a.tmps.getD t undef)
  ok : StoreOk Γ w st.σ
  free : ∀ id, st.nx ≤ id → Γ.ρ id = none
  le : base ≤ st.nx
  dfs : ∃ Ds : List Nat, a.defers = Ds.map mkD ∧ (Ds.Nodup ∧ B0 ≤ w.heap.size) ∧ ∀ D ∈ Ds, B0 ≤ D ∧ ¬ Γ.I D ∧ ¬ Live Γ st.σ D ∧ w.heap[D]? = some (.deferred (some []))
/-- How a piece of code may end: in a state that Q takes, nothing turned but what may turn. -/
def Post (N B0 base : Nat) (Γ : Cx) (w : World) (σ : Store) (Q : Exit → St → Prop) : Exit → Act → World → Prop :=
  fun e a' w' => ∃ Γ' st', Conc N B0 base Γ' w' st' a' ∧ Ext base Γ w σ Γ' w' st'.σ ∧ Q e st'
section
variable {P : Program} {N B0 base : Nat} {Γ : Cx} {w : World} {st : St} {a : Act}
theorem rep_const (v : Value) : RepV Γ w (evo st.env (.const v)) v := by
  cases v with
  | bool b => cases b <;> exact .c _ _ rfl
  | agg xs =>
    simp only [evo]
    split
    · rename_i h
      refine .agg _ _ (by simp) (fun i c u hc hu => ?_)
      simp only [List.getElem?_map, Option.map_eq_some_iff] at hc
      obtain ⟨x, hx, rfl⟩ := hc
      have hx' : xs[i]? = some x := by simpa using hx
      rw [hx'] at hu
      simp only [Option.some.injEq] at hu
      subst hu
      exact .v _ (List.all_eq_true.1 h _ (List.mem_of_getElem? hx))
    · exact .unk _
  | tuple xs => exact .unk _
  | _ => exact rep_exact rfl
theorem Conc.ev (h : Conc N B0 base Γ w st a) (x : Operand) : RepV Γ w (evo st.env x) (a.eval x) := by
  cases x with
  | tmp t => exact h.env t
  | const v => exact rep_const v
  | global g => exact .unk _
  | func f => exact .c _ _ ⟨([] : List Nat), rfl, (fun j i h => by simp at h), rfl⟩
theorem lk_cons {env : List (Nat × V)} {d t : Nat} {v : V} : lk ((d, v) :: env) t = if d = t then v else lk env t := by
  simp only [lk]
  by_cases h : d = t
  · subst h; simp [Nat.beq_refl]
  · rw [if_neg h]
    cases hb : Nat.beq d t
    · rfl
    · exact absurd (Nat.eq_of_beq_eq_true hb) h
/-- The environment once a slot has been given a value. -/
def putE (env : List (Nat × V)) (dst : Option Nat) (v : V) : List (Nat × V) :=
  match dst with
  | some d => (d, v) :: env
  | none => env
/-- A step's end: the frame's slot written, the store turned. -/
theorem Conc.put {Γ' : Cx} {w' : World} {σ' : Store} {nx' : Nat} {v : V} {u : Value} {dst : Option Nat} (h : Conc N B0 base Γ w st a) (hd : ∀ d, dst = some d → d < N) (hv : RepV Γ' w' v u)
    (hst : StoreOk Γ' w' σ') (hle : CxLe Γ Γ') (hext : Ext base Γ w st.σ Γ' w' σ') (hρ : ∀ i, i ≠ st.nx → Γ'.ρ i = Γ.ρ i) (hnx : (nx' = st.nx ∧ Γ'.ρ st.nx = Γ.ρ st.nx) ∨ nx' = st.nx + 1) :
    Conc N B0 base Γ' w' ⟨putE st.env dst v, σ', nx'⟩ (a.put dst u) := by
  have hs := hext.same h.ok
  refine ⟨?_, fun t => ?_, hst, fun id hid => ?_, ?_, ?_⟩
  · cases dst <;> simp [Act.put, h.size]
  · cases dst with
    | none => exact (h.env t).mono hle hs
    | some d =>
      simp only [putE, Act.put, lk_cons]
      have hdN := hd d rfl
      by_cases hdt : d = t
      · subst hdt
        rw [if_pos rfl, Array.getD_eq_getD_getElem?, Array.getElem?_setIfInBounds_self_of_lt (by rw [h.size]; exact hdN)]
        exact hv
      · rw [if_neg hdt, Array.getD_eq_getD_getElem?, Array.getElem?_setIfInBounds_ne hdt, ← Array.getD_eq_getD_getElem?]
        exact (h.env t).mono hle hs
  · rcases hnx with ⟨rfl, h1⟩ | rfl
    · by_cases he : id = st.nx
      · subst he; rw [h1]; exact h.free _ (Nat.le_refl _)
      · rw [hρ id he]; exact h.free id hid
    · have hid : st.nx + 1 ≤ id := hid
      rw [hρ id (by omega)]; exact h.free id (by omega)
  · have := h.le
    rcases hnx with ⟨rfl, _⟩ | rfl
    · exact this
    · exact Nat.le_succ_of_le this
  · obtain ⟨Ds, h1, h2, h3⟩ := h.dfs
    refine ⟨Ds, by cases dst <;> exact h1, ⟨h2.1, Nat.le_trans h2.2 hext.size⟩, fun D hD => ?_⟩
    obtain ⟨h4, h5, h6, h7⟩ := h3 D hD
    have hlt : D < w.heap.size := (Array.getElem?_eq_some_iff.1 h7).1
    refine ⟨h4, fun hi => ?_, fun hl => ?_, (hext.keep D hlt h6).trans h7⟩
    · rcases hext.new D hi with h8 | h8 | h8
      · exact h5 h8
      · omega
      · exact h6 h8
    · rcases hext.live D hl with h8 | h8
      · exact h6 h8
      · omega
end
/-- A list of operations, in order, from a state: it ends in a state that K takes. -/
def Ops (P : Program) (N base : Nat) (ops : List LIns) (st : St) (K : St → Prop) : Prop :=
  ∀ (ro : Option Nat) (n B0 : Nat) (own : List Nat) (opsA : Array Oper) (idx : List Nat) (os : List Oper), lowList P N own opsA os = some ops → idx.map (opsA[·]?) = os.map some →
    ∀ (Γ0 Γ : Cx) (w0 w : World) (σ0 : Store) (a : Act), Conc N B0 base Γ w st a → Ext base Γ0 w0 σ0 Γ w st.σ →
      wpOpsIn (FW ro) n P opsA (Post N B0 base Γ0 w0 σ0 fun e st' => e = .normal ∧ K st') idx a w
section
variable {P : Program} {N base : Nat} {st : St} {K : St → Prop} {rest : List LIns} {i : LIns}
theorem lowList_cons {own : List Nat} {opsA : Array Oper} {os : List Oper} (h : lowList P N own opsA os = some (i :: rest)) :
    ∃ o os', os = o :: os' ∧ lowIns P N own opsA o = some i ∧ lowList P N own opsA os' = some rest := by
  cases os with
  | nil => simp [lowList] at h
  | cons o os' =>
    simp only [lowList, Option.bind_eq_bind, Option.bind_eq_some_iff, Option.some.injEq, List.cons.injEq] at h
    obtain ⟨i', hi, r, hr, rfl, rfl⟩ := h
    exact ⟨o, os', rfl, hi, hr⟩
theorem lowIns_some {own : List Nat} {opsA : Array Oper} {o : Oper} (h : lowIns P N own opsA o = some i) :
    (∃ b, i.op = lowOp P b o) ∧ i.dst = o.dst ∧ (∀ d, o.dst = some d → d < N) ∧ ((o.guard = none ∧ i.guard = none) ∨ ∃ j want t, o.guard = some (j, want) ∧ (opsA[j]?).bind (·.dst) = some t ∧ i.guard = some (t, want)) := by
  have hd : ∀ g (b : Bool), (if (match o.dst with | some d => decide (d < N) | none => true) = true then some (LIns.mk o.dst (lowOp P b o) g) else none) = some i →
      (∃ b, i.op = lowOp P b o) ∧ i.dst = o.dst ∧ (∀ d, o.dst = some d → d < N) ∧ i.guard = g := fun g b h => by
    by_cases hd : (match o.dst with | some d => decide (d < N) | none => true) = true
    · rw [if_pos hd] at h
      simp only [Option.some.injEq] at h
      subst h
      exact ⟨⟨b, rfl⟩, rfl, fun d hd' => by rw [hd'] at hd; simpa using hd, rfl⟩
    · rw [if_neg hd] at h; cases h
  unfold lowIns at h
  cases hg : o.guard with
  | none =>
    rw [hg] at h
    obtain ⟨h1, h2, h3, h4⟩ := hd none _ h
    exact ⟨h1, h2, h3, .inl ⟨rfl, h4⟩⟩
  | some p =>
    obtain ⟨j, want⟩ := p
    rw [hg] at h
    simp only [Option.bind_eq_bind, Option.bind_eq_some_iff] at h
    obtain ⟨g, hg', h⟩ := h
    obtain ⟨t, ht, rfl⟩ := Option.map_eq_some_iff.1 hg'
    obtain ⟨h1, h2, h3, h4⟩ := hd _ _ h
    exact ⟨h1, h2, h3, .inr ⟨j, want, t, rfl, ht, h4⟩⟩
theorem Ops.nil (h : K st) : Ops P N base [] st K := by
  intro ro n B0 own opsA idx os hl hidx Γ0 Γ w0 w σ0 a hc hext
  have hos : os = [] := by
    cases os with
    | nil => rfl
    | cons o os => simp only [lowList, Option.bind_eq_bind, Option.bind_eq_some_iff] at hl; obtain ⟨_, _, _, _, h⟩ := hl; cases h
  subst hos
  have : idx = [] := by simpa using hidx
  subst this
  exact ⟨Γ, st, hc, hext, rfl, h⟩
theorem defer_lowOp {own : Bool} {o : Oper} {σ : Store} {nx : Nat} {ev : Operand → V} {r : Res} (h : xop ev σ nx (lowOp P own o) = some r) : ∀ c, o.op ≠ .defer c := fun c hc => by
  have : lowOp P own o = .bad := by simp [lowOp, lowOp', setCall, hc]
  rw [this] at h; simp [xop] at h
theorem Conc.slot_tru {N B0 base : Nat} {Γ : Cx} {w : World} {a : Act} {t : Nat} (hc : Conc N B0 base Γ w st a) (h : lk st.env t = .c .tru) : a.tmps.getD t undef = .bool true := by
  have := hc.env t; rw [h] at this; exact this.tru
theorem Conc.slot_fls {N B0 base : Nat} {Γ : Cx} {w : World} {a : Act} {t : Nat} (hc : Conc N B0 base Γ w st a) (h : lk st.env t = .c .fls) : a.tmps.getD t undef = .bool false := by
  have := hc.env t; rw [h] at this; exact this.fls
/-- The guard says: run. -/
def Runs (st : St) (i : LIns) : Prop := i.guard = none ∨ ∃ t want, i.guard = some (t, want) ∧ ((want = true ∧ lk st.env t = .c .tru) ∨ (want = false ∧ lk st.env t = .c .fls))
/-- The guard says: pass over. -/
def Skips (st : St) (i : LIns) : Prop := ∃ t want, i.guard = some (t, want) ∧ ((want = true ∧ lk st.env t = .c .fls) ∨ (want = false ∧ lk st.env t = .c .tru) ∨ lk st.env t = .tup [])
theorem yielded_bool {a : Act} {opsA : Array Oper} {j t : Nat} {b : Bool} (hj : (opsA[j]?).bind (·.dst) = some t) (hb : a.tmps.getD t undef = .bool b) :
    yielded opsA a.tmps j = some b := by
  unfold yielded
  rw [hj]
  simp only [Option.bind_some]
  have : a.tmps[t]? = some (.bool b) := by
    rw [Array.getD_eq_getD_getElem?] at hb
    cases h : a.tmps[t]? with
    | none => rw [h] at hb; simp [undef] at hb
    | some x => rw [h] at hb; simp at hb; rw [hb]
  rw [this]
theorem Runs.wanted {N B0 base : Nat} {Γ : Cx} {w : World} {a : Act} {opsA : Array Oper} {o : Oper} (hr : Runs st i) (hc : Conc N B0 base Γ w st a)
    (hg : (o.guard = none ∧ i.guard = none) ∨ ∃ j want t, o.guard = some (j, want) ∧ (opsA[j]?).bind (·.dst) = some t ∧ i.guard = some (t, want)) : Region.wanted o (yielded opsA a.tmps) = true := by
  rcases hg with ⟨h1, _⟩ | ⟨j, want, t, h1, h2, h3⟩
  · simp [Region.wanted, h1]
  · rcases hr with h4 | ⟨t', want', h4, h5⟩
    · rw [h3] at h4; cases h4
    · rw [h3] at h4; cases h4
      simp only [Region.wanted, h1]
      rcases h5 with ⟨rfl, h5⟩ | ⟨rfl, h5⟩
      · rw [yielded_bool (b := true) h2 (hc.slot_tru h5)]; rfl
      · rw [yielded_bool (b := false) h2 (hc.slot_fls h5)]; rfl
theorem Skips.unwanted {N B0 base : Nat} {Γ : Cx} {w : World} {a : Act} {opsA : Array Oper} {o : Oper} (hr : Skips st i) (hc : Conc N B0 base Γ w st a)
    (hg : (o.guard = none ∧ i.guard = none) ∨ ∃ j want t, o.guard = some (j, want) ∧ (opsA[j]?).bind (·.dst) = some t ∧ i.guard = some (t, want)) : Region.wanted o (yielded opsA a.tmps) = false := by
  obtain ⟨t', want', h4, h5⟩ := hr
  rcases hg with ⟨_, h1⟩ | ⟨j, want, t, h1, h2, h3⟩
  · rw [h1] at h4; cases h4
  · rw [h3] at h4; cases h4
    simp only [Region.wanted, h1]
    rcases h5 with ⟨rfl, h5⟩ | ⟨rfl, h5⟩ | h5
    · rw [yielded_bool (b := false) h2 (hc.slot_fls h5)]; rfl
    · rw [yielded_bool (b := true) h2 (hc.slot_tru h5)]; rfl
    · have hu := hc.env t'
      rw [h5] at hu
      have hn : yielded opsA a.tmps j = none := by
        unfold yielded
        rw [h2]
        simp only [Option.bind_some]
        rw [Array.getD_eq_getD_getElem?] at hu
        cases hq : a.tmps[t']? with
        | none => rfl
        | some x =>
          rw [hq] at hu
          simp only [Option.getD_some] at hu
          cases hu with | tup _ us _ _ => rfl
      rw [hn]; rfl
/-- Gives, in step. -/
theorem Gives.conc {B0 : Nat} {Γ : Cx} {w : World} {a : Act} {v : V} {σ' : Store} {nx' : Nat} {r : Result Next} {dst : Option Nat} (h : Gives base Γ w st.σ st.nx v σ' nx' r) (hc : Conc N B0 base Γ w st a) (hd : ∀ d, dst = some d → d < N) :
    ∃ u w' Γ', (r = .ok (.value u) w' ∨ (r = .ok .skip w' ∧ u = undef)) ∧ Ext base Γ w st.σ Γ' w' σ' ∧ Conc N B0 base Γ' w' ⟨putE st.env dst v, σ', nx'⟩ (a.put dst u) := by
  obtain ⟨u, w', Γ', hr, hv, hst, hle, hext, hρ, hnx⟩ := h
  exact ⟨u, w', Γ', hr, hext, hc.put hd hv hst hle hext hρ hnx⟩
theorem semAt_low {own : Bool} {o : Oper} {σ : Store} {nx : Nat} {ev : Operand → V} {r : Res} (h : xop ev σ nx (lowOp P own o) = some r) (ro : Option Nat) (ρ : Operand → Value) : o.semAt ro ρ = execOp ρ o :=
  Oper.semAt_eq ro ρ o (defer_lowOp h)
theorem Ops.step {v : V} {σ' : Store} {nx' : Nat} {ob : Prop} (hr : Runs st i) (hx : xop (evo st.env) st.σ st.nx i.op = some (ob, v, σ', nx')) (hob : ob)
    (h : Ops P N base rest ⟨putE st.env i.dst v, σ', nx'⟩ K) : Ops P N base (i :: rest) st K := by
  intro ro n B0 own opsA idx os hl hidx Γ0 Γ w0 w σ0 a hc hext
  obtain ⟨o, os', rfl, hi, hl'⟩ := lowList_cons hl
  obtain ⟨⟨b, hop⟩, hdst, hdN, hg⟩ := lowIns_some hi
  match idx, hidx with
  | k :: idx, hidx =>
    simp only [List.map_cons, List.cons.injEq] at hidx
    obtain ⟨hk, hidx⟩ := hidx
    rw [hop] at hx
    have hgives := xop_sound (P := P) (base := base) (Γ := Γ) (w := w) (o := o) (ρ := a.eval) (fun x => hc.ev x) hc.ok (hc.free _ (Nat.le_refl _)) hc.le hx hob
    obtain ⟨u, w', Γ', hrun, hext', hconc⟩ := hgives.conc hc (dst := o.dst) hdN
    have hrest := h ro n B0 own opsA idx os' hl' hidx Γ0 Γ' w0 w' σ0 (a.put o.dst u) (by rw [hdst]; exact hconc) (hext.trans hext')
    have hw := hr.wanted hc hg
    simp only [wpOpsIn, hk, hw, if_true, Oper.wpIn]
    refine ⟨fun _ _ => trivial, ?_⟩
    rw [semAt_low hx]
    rcases hrun with h1 | ⟨h1, rfl⟩
    · rw [h1]; exact hrest
    · rw [h1]; exact hrest
theorem rep_undef {Γ : Cx} {w : World} : RepV Γ w (.tup []) undef := .tup _ _ rfl (fun i v u h => by simp at h)
theorem Ops.skip (hs : Skips st i) (h : Ops P N base rest ⟨putE st.env i.dst (.tup []), st.σ, st.nx⟩ K) : Ops P N base (i :: rest) st K := by
  intro ro n B0 own opsA idx os hl hidx Γ0 Γ w0 w σ0 a hc hext
  obtain ⟨o, os', rfl, hi, hl'⟩ := lowList_cons hl
  obtain ⟨_, hdst, hdN, hg⟩ := lowIns_some hi
  match idx, hidx with
  | k :: idx, hidx =>
    simp only [List.map_cons, List.cons.injEq] at hidx
    obtain ⟨hk, hidx⟩ := hidx
    have hw := hs.unwanted hc hg
    have hconc : Conc N B0 base Γ w ⟨putE st.env o.dst (.tup []), st.σ, st.nx⟩ (a.put o.dst undef) := hc.put hdN rep_undef hc.ok (CxLe.refl _) (Ext.refl _ _ _ _) (fun _ _ => rfl) (.inl ⟨rfl, rfl⟩)
    have hrest := h ro n B0 own opsA idx os' hl' hidx Γ0 Γ w0 w σ0 (a.put o.dst undef) (by rw [hdst]; exact hconc) hext
    simp only [wpOpsIn, hk, hw, Bool.false_eq_true, if_false]
    exact ⟨fun _ _ => trivial, hrest⟩
end
end Go.Pw

namespace Go.Pw
open Go Go.RowKit
section
variable {P : Program} {N base : Nat} {st : St} {K : St → Prop} {rest : List LIns} {i : LIns}
/-- A bool that is not known: both ways, the slot known on each. -/
theorem Conc.know {B0 : Nat} {Γ : Cx} {w : World} {a : Act} {t : Nat} {b : Bool} (hc : Conc N B0 base Γ w st a) (h : lk st.env t = vbl b) :
    Conc N B0 base Γ w ⟨(t, if b then .c .tru else .c .fls) :: st.env, st.σ, st.nx⟩ a := by
  refine ⟨hc.size, fun t' => ?_, hc.ok, hc.free, hc.le, hc.dfs⟩
  simp only [lk_cons]
  split
  · rename_i ht
    subst ht
    have := hc.env t
    rw [h] at this
    rw [this.bool]
    cases b <;> exact .c _ _ rfl
  · exact hc.env t'
theorem Ops.know {ops : List LIns} (t : Nat) (b : Bool) (h : lk st.env t = vbl b) (h1 : b = true → Ops P N base ops ⟨(t, .c .tru) :: st.env, st.σ, st.nx⟩ K) (h2 : b = false → Ops P N base ops ⟨(t, .c .fls) :: st.env, st.σ, st.nx⟩ K) : Ops P N base ops st K := by
  intro ro n B0 own opsA idx os hl hidx Γ0 Γ w0 w σ0 a hc hext
  have hk := hc.know h
  cases b with
  | true => exact h1 rfl ro n B0 own opsA idx os hl hidx Γ0 Γ w0 w σ0 a hk hext
  | false => exact h2 rfl ro n B0 own opsA idx os hl hidx Γ0 Γ w0 w σ0 a hk hext
inductive Gd where
  | run | skip | stop
def guardOf (env : List (Nat × V)) : Option (Nat × Bool) → Gd
  | none => .run
  | some (t, true) => match lk env t with
    | .c .tru => .run
    | .c .fls => .skip
    | .tup [] => .skip
    | _ => .stop
  | some (t, false) => match lk env t with
    | .c .tru => .skip
    | .c .fls => .run
    | .tup [] => .skip
    | _ => .stop
theorem guardOf_run {env : List (Nat × V)} {σ : Store} {nx : Nat} (h : guardOf env i.guard = .run) : Runs ⟨env, σ, nx⟩ i := by
  unfold guardOf at h
  split at h
  · rename_i hg; exact .inl hg
  · rename_i t hg
    split at h <;> first | (rename_i hl; exact .inr ⟨t, true, hg, .inl ⟨rfl, hl⟩⟩) | cases h
  · rename_i t hg
    split at h <;> first | (rename_i hl; exact .inr ⟨t, false, hg, .inr ⟨rfl, hl⟩⟩) | cases h
theorem guardOf_skip {env : List (Nat × V)} {σ : Store} {nx : Nat} (h : guardOf env i.guard = .skip) : Skips ⟨env, σ, nx⟩ i := by
  unfold guardOf at h
  split at h
  · cases h
  · rename_i t hg
    split at h <;> first | (rename_i hl; exact ⟨t, true, hg, .inl ⟨rfl, hl⟩⟩) | (rename_i hl; exact ⟨t, true, hg, .inr (.inr hl)⟩) | cases h
  · rename_i t hg
    split at h <;> first | (rename_i hl; exact ⟨t, false, hg, .inr (.inl ⟨rfl, hl⟩)⟩) | (rename_i hl; exact ⟨t, false, hg, .inr (.inr hl)⟩) | cases h
theorem Ops.mono {ops : List LIns} {K' : St → Prop} (h : Ops P N base ops st K) (hk : ∀ st', K st' → K' st') : Ops P N base ops st K' := by
  intro ro n B0 own opsA idx os hl hidx Γ0 Γ w0 w σ0 a hc hext
  have := h ro n B0 own opsA idx os hl hidx Γ0 Γ w0 w σ0 a hc hext
  clear h hl hidx
  -- the posts alone differ
  have key : ∀ (idx : List Nat) (a : Act) (w : World), wpOpsIn (FW ro) n P opsA (Post N B0 base Γ0 w0 σ0 fun e st' => e = .normal ∧ K st') idx a w →
      wpOpsIn (FW ro) n P opsA (Post N B0 base Γ0 w0 σ0 fun e st' => e = .normal ∧ K' st') idx a w := by
    have hpost : ∀ e a w, Post N B0 base Γ0 w0 σ0 (fun e st' => e = .normal ∧ K st') e a w → Post N B0 base Γ0 w0 σ0 (fun e st' => e = .normal ∧ K' st') e a w := fun e a w ⟨Γ', st', h1, h2, h3, h4⟩ => ⟨Γ', st', h1, h2, h3, hk _ h4⟩
    intro idx
    induction idx with
    | nil => intro a w h; exact hpost _ _ _ h
    | cons k idx ih =>
      intro a w h
      simp only [wpOpsIn] at h ⊢
      split
      · rename_i ho; rw [ho] at h; exact ih _ _ h
      · rename_i o ho
        rw [ho] at h
        simp only at h
        split
        · rename_i hw
          rw [if_pos hw] at h
          refine ⟨h.1, ?_⟩
          have h := h.2
          generalize (o.semAt (FW ro).round a.eval).run P w = r at *
          cases r with
          | ok x w' =>
            cases x <;> simp only [Oper.uponIn] at h ⊢ <;>
              first
                | exact ih _ _ h
                | exact ⟨h.1, CallsIn.mono h.2 (fun e w'' he => by cases e <;> first | exact ih _ _ he | exact hpost _ _ _ he | (obtain ⟨a1, w1, hq⟩ := he; exact ⟨a1, w1, hpost _ _ _ hq⟩))⟩
                | exact ⟨h.1, RowsIn.mono h.2 (fun _ _ he => ih _ _ he)⟩
                | exact ⟨h.1, RoundIn.mono h.2 (fun e w'' he => by cases e <;> first | exact ih _ _ he | exact hpost _ _ _ he | (obtain ⟨a1, w1, hq⟩ := he; exact ⟨a1, w1, hpost _ _ _ hq⟩))⟩
          | halt x w' => cases x <;> simp only [Oper.uponIn] at h ⊢ <;> exact hpost _ _ _ h
        · rename_i hw
          rw [if_neg hw] at h
          exact ⟨h.1, ih _ _ h.2⟩
  exact key _ _ _ this
end
def Sat (P : Program) (N base : Nat) (c : LCode) (st : St) (Q : Exit → St → Prop) : Prop :=
  ∀ (ro : Option Nat) (n B0 : Nat) (own : List Nat) (code : Code), (c.ranges = true → ro = none) → lowCode P N own code = some c →
    ∀ (Γ0 Γ : Cx) (w0 w : World) (σ0 : Store) (a : Act), Conc N B0 base Γ w st a → Ext base Γ0 w0 σ0 Γ w st.σ → code.wpIn (FW ro) n P (Post N B0 base Γ0 w0 σ0 Q) a w
section
variable {P : Program} {N base : Nat} {st : St} {Q : Exit → St → Prop} {x y : LCode}
theorem Sat.mono {Q' : Exit → St → Prop} (h : Sat P N base x st Q) (hq : ∀ e st', Q e st' → Q' e st') : Sat P N base x st Q' := by
  intro ro n B0 own code hro hl Γ0 Γ w0 w σ0 a hc hext
  exact wpIn_mono (h ro n B0 own code hro hl Γ0 Γ w0 w σ0 a hc hext) (fun e a w ⟨Γ', st', h1, h2, h3⟩ => ⟨Γ', st', h1, h2, hq _ _ h3⟩)
def thenQ (P : Program) (N base : Nat) (y : LCode) (Q : Exit → St → Prop) : Exit → St → Prop
  | .normal, st => Sat P N base y st Q
  | e, st => Q e st
def blockQ (id : Nat) (Q : Exit → St → Prop) : Exit → St → Prop
  | .exit id', st => if Nat.beq id' id then Q .normal st else Q (.exit id') st
  | e, st => Q e st
theorem low_skip {own : List Nat} {code : Code} (h : lowCode P N own code = some .skip) : code = .skip := by
  cases code <;> simp [lowCode, Option.bind_eq_some_iff] at h <;> (try rfl) <;> (try (split at h <;> simp at h))
theorem low_seq {own : List Nat} {code : Code} (h : lowCode P N own code = some (.seq x y)) : ∃ a b, code = .seq a b ∧ lowCode P N own a = some x ∧ lowCode P N own b = some y := by
  cases code with
  | seq a b =>
    simp only [lowCode, Option.bind_eq_bind, Option.bind_eq_some_iff, Option.some.injEq] at h
    obtain ⟨p, hp, q, hq, h⟩ := h
    cases h
    exact ⟨a, b, rfl, hp, hq⟩
  | _ => simp [lowCode, Option.bind_eq_some_iff] at h <;> (try (split at h <;> simp at h))
end
end Go.Pw

namespace Go.Pw
open Go Go.RowKit
section
variable {P : Program} {N base : Nat} {st : St} {Q : Exit → St → Prop} {x y : LCode} {own : List Nat} {code : Code}
theorem low_cond {c : Operand} (h : lowCode P N own code = some (.cond c x y)) : ∃ a b, code = .cond c a b ∧ lowCode P N own a = some x ∧ lowCode P N own b = some y := by
  cases code with
  | cond c' a b =>
    simp only [lowCode, Option.bind_eq_bind, Option.bind_eq_some_iff, Option.some.injEq] at h
    obtain ⟨p, hp, q, hq, h⟩ := h
    cases h
    exact ⟨a, b, rfl, hp, hq⟩
  | _ => simp [lowCode, Option.bind_eq_some_iff] at h <;> (try (split at h <;> simp at h))
theorem low_block {id : Nat} (h : lowCode P N own code = some (.block id x)) : ∃ a, code = .block id a ∧ lowCode P N own a = some x := by
  cases code with
  | block id' a =>
    simp only [lowCode] at h
    obtain ⟨p, hp, h⟩ := Option.map_eq_some_iff.1 h
    cases h
    exact ⟨a, rfl, hp⟩
  | _ => simp [lowCode, Option.bind_eq_some_iff] at h <;> (try (split at h <;> simp at h))
theorem low_loop (h : lowCode P N own code = some (.loop x)) : ∃ a, code = .loop a ∧ lowCode P N own a = some x := by
  cases code with
  | loop a =>
    simp only [lowCode] at h
    obtain ⟨p, hp, h⟩ := Option.map_eq_some_iff.1 h
    cases h
    exact ⟨a, rfl, hp⟩
  | _ => simp [lowCode, Option.bind_eq_some_iff] at h <;> (try (split at h <;> simp at h))
theorem low_exit {id : Nat} (h : lowCode P N own code = some (.exit id)) : code = .exit id := by
  cases code with
  | exit id' => simp only [lowCode, Option.some.injEq] at h; cases h; rfl
  | _ => simp [lowCode, Option.bind_eq_some_iff] at h <;> (try (split at h <;> simp at h))
theorem low_ret (h : lowCode P N own code = some .ret) : code = .ret := by
  cases code with
  | ret => rfl
  | _ => simp [lowCode, Option.bind_eq_some_iff] at h <;> (try (split at h <;> simp at h))
theorem low_region {ops : List LIns} (h : lowCode P N own code = some (.region ops)) : ∃ id opsA, code = .region id opsA false ∧ lowList P N own opsA opsA.toList = some ops := by
  cases code with
  | region id opsA draw =>
    simp only [lowCode, Option.bind_eq_bind, Option.bind_eq_some_iff] at h
    obtain ⟨l, hl, h⟩ := h
    cases draw with
    | true =>
      simp only [if_true] at h
      split at h <;> cases h
    | false =>
      simp only [Bool.false_eq_true, if_false, Option.some.injEq] at h
      cases h
      exact ⟨id, opsA, rfl, hl⟩
  | _ => simp [lowCode, Option.bind_eq_some_iff] at h
theorem Sat.skip (h : Q .normal st) : Sat P N base .skip st Q := by
  intro ro n B0 own code hro hl Γ0 Γ w0 w σ0 a hc hext
  rw [low_skip hl]
  exact wpIn_skip ⟨Γ, st, hc, hext, h⟩
theorem Sat.exit {id : Nat} (h : Q (.exit id) st) : Sat P N base (.exit id) st Q := by
  intro ro n B0 own code hro hl Γ0 Γ w0 w σ0 a hc hext
  rw [low_exit hl]
  exact wpIn_exit ⟨Γ, st, hc, hext, h⟩
theorem Sat.ret (h : Q .ret st) : Sat P N base .ret st Q := by
  intro ro n B0 own code hro hl Γ0 Γ w0 w σ0 a hc hext
  rw [low_ret hl]
  exact wpIn_ret ⟨Γ, st, hc, hext, h⟩
theorem Sat.seq (h : Sat P N base x st (thenQ P N base y Q)) : Sat P N base (.seq x y) st Q := by
  intro ro n B0 own code hro hl Γ0 Γ w0 w σ0 a hc hext
  obtain ⟨c1, c2, rfl, h1, h2⟩ := low_seq hl
  refine wpIn_seq (wpIn_mono (h ro n B0 own c1 (fun h => hro (by simp [LCode.ranges, h])) h1 Γ0 Γ w0 w σ0 a hc hext) (fun e a' w' ⟨Γ', st', h3, h4, h5⟩ => ?_))
  cases e with
  | normal => exact h5 ro n B0 own c2 (fun h => hro (by simp [LCode.ranges, h])) h2 Γ0 Γ' w0 w' σ0 a' h3 h4
  | _ => exact ⟨Γ', st', h3, h4, h5⟩
theorem Sat.block {id : Nat} (h : Sat P N base x st (blockQ id Q)) : Sat P N base (.block id x) st Q := by
  intro ro n B0 own code hro hl Γ0 Γ w0 w σ0 a hc hext
  obtain ⟨c1, rfl, h1⟩ := low_block hl
  refine wpIn_block (wpIn_mono (h ro n B0 own c1 hro h1 Γ0 Γ w0 w σ0 a hc hext) (fun e a' w' ⟨Γ', st', h3, h4, h5⟩ => ?_))
  cases e with
  | exit id' =>
    simp only [Exit.inBlock]
    simp only [blockQ] at h5
    split
    · rename_i he
      subst he
      rw [if_pos (Nat.beq_refl _)] at h5
      exact ⟨Γ', st', h3, h4, h5⟩
    · rename_i he
      rw [if_neg (fun hb => he (Nat.eq_of_beq_eq_true hb))] at h5
      exact ⟨Γ', st', h3, h4, h5⟩
  | _ => exact ⟨Γ', st', h3, h4, h5⟩
theorem Sat.know (t : Nat) (b : Bool) (h : lk st.env t = vbl b) (h1 : b = true → Sat P N base x ⟨(t, .c .tru) :: st.env, st.σ, st.nx⟩ Q) (h2 : b = false → Sat P N base x ⟨(t, .c .fls) :: st.env, st.σ, st.nx⟩ Q) : Sat P N base x st Q := by
  intro ro n B0 own code hro hl Γ0 Γ w0 w σ0 a hc hext
  have hk := hc.know h
  cases b with
  | true => exact h1 rfl ro n B0 own code hro hl Γ0 Γ w0 w σ0 a hk hext
  | false => exact h2 rfl ro n B0 own code hro hl Γ0 Γ w0 w σ0 a hk hext
theorem Sat.condT {c : Operand} (hv : evo st.env c = .c .tru) (h : Sat P N base x st Q) : Sat P N base (.cond c x y) st Q := by
  intro ro n B0 own code hro hl Γ0 Γ w0 w σ0 a hc hext
  obtain ⟨c1, c2, rfl, h1, h2⟩ := low_cond hl
  have := hc.ev c
  rw [hv] at this
  exact wpIn_cond_true this.tru (h ro n B0 own c1 (fun h => hro (by simp [LCode.ranges, h])) h1 Γ0 Γ w0 w σ0 a hc hext)
theorem Sat.condF {c : Operand} (hv : evo st.env c = .c .fls) (h : Sat P N base y st Q) : Sat P N base (.cond c x y) st Q := by
  intro ro n B0 own code hro hl Γ0 Γ w0 w σ0 a hc hext
  obtain ⟨c1, c2, rfl, h1, h2⟩ := low_cond hl
  have := hc.ev c
  rw [hv] at this
  exact wpIn_cond_false this.fls (h ro n B0 own c2 (fun h => hro (by simp [LCode.ranges, h])) h2 Γ0 Γ w0 w σ0 a hc hext)
/-- A test of a slot that is not known: both ways. -/
theorem Sat.cond {t : Nat} {b : Bool} (h : lk st.env t = vbl b) (h1 : b = true → Sat P N base x ⟨(t, .c .tru) :: st.env, st.σ, st.nx⟩ Q) (h2 : b = false → Sat P N base y ⟨(t, .c .fls) :: st.env, st.σ, st.nx⟩ Q) :
    Sat P N base (.cond (.tmp t) x y) st Q :=
  Sat.know t b h (fun hb => Sat.condT (by simp [evo, lk_cons]) (h1 hb)) (fun hb => Sat.condF (by simp [evo, lk_cons]) (h2 hb))
theorem range_map (opsA : Array Oper) : (List.range opsA.size).map (opsA[·]?) = opsA.toList.map some := by
  apply List.ext_getElem
  · simp
  · intro i h1 h2
    simp at h1
    simp [h1]
theorem Sat.region {ops : List LIns} (h : Ops P N base ops st fun st' => Q .normal st') : Sat P N base (.region ops) st Q := by
  intro ro n B0 own code hro hl Γ0 Γ w0 w σ0 a hc hext
  obtain ⟨id, opsA, rfl, h1⟩ := low_region hl
  refine wpIn_mono (wpIn_region (h ro n B0 own opsA (List.range opsA.size) opsA.toList h1 (range_map opsA) Γ0 Γ w0 w σ0 a hc hext)) (fun e a' w' ⟨Γ', st', h3, h4, h5, h6⟩ => ?_)
  subst h5
  exact ⟨Γ', st', h3, h4, h6⟩
def rnC (π : Nat → Nat) : C → C
  | .fn f ids => .fn f (ids.map π)
  | .bp id off => .bp (π id) off
  | .ep id s i j => .ep (π id) s i j
  | .ms id n => .ms (π id) n
  | .yd id => .yd (π id)
  | c => c
def rnV (π : Nat → Nat) : V → V
  | .c x => .c (rnC π x)
  | .agg cs => .agg (cs.map (rnC π))
  | v => v
/-- Data that agree as far as a slice reaches. -/
inductive DEq : D → D → Prop
  | refl (d : D) : DEq d d
  | sl (s n : Nat) (f g : Nat → List D) (h : ∀ i, i < n → f i = g i) : DEq (.sl s n f) (.sl s n g)
  | nil (s : Nat) (g : Nat → List D) : DEq (.v (.slice none 0 0)) (.sl s 0 g)
inductive CEq : C → C → Prop
  | refl (c : C) : CEq c c
  | d (x y : D) (h : DEq x y) : CEq (.d x) (.d y)
  | z (s : Nat) (g : Nat → List D) : CEq .z (.d (.sl s 0 g))
  | tru : CEq .tru (.d (.v (.bool true)))
  | fls : CEq .fls (.d (.v (.bool false)))
inductive VEq : V → V → Prop
  | refl (v : V) : VEq v v
  | unk (v : V) : VEq v .unk
  | c (x y : C) (h : CEq x y) : VEq (.c x) (.c y)
  | agg (xs ys : List C) (hl : xs.length = ys.length) (h : ∀ (i : Nat) x y, xs[i]? = some x → ys[i]? = some y → CEq x y) : VEq (.agg xs) (.agg ys)
inductive EEq : Ent → Ent → Prop
  | box (xs ys : List C) (hl : xs.length = ys.length) (h : ∀ (i : Nat) x y, xs[i]? = some x → ys[i]? = some y → CEq x y) : EEq (.box xs) (.box ys)
  | row (e : TypeId) (s n : Nat) (f g : Nat → List D) (fz : Bool) (h : ∀ i, i < n → f i = g i) : EEq (.row e s n f fz) (.row e s n g fz)
  | lp (env env' : List (Nat × V)) (st : LoopState) (j : Option Code) (R : Loop → Prop) (h : ∀ t, VEq (lk env t) (lk env' t)) : EEq (.lp env st j R) (.lp env' st j R)
theorem DEq.rep {I : Nat → Prop} {w : World} {d d' : D} {u : Value} (h : DEq d d') (hr : RepD I w d u) : RepD I w d' u := by
  cases h with
  | refl => exact hr
  | sl s n f g h =>
    cases hr with
    | slE s f A c => exact .slE _ _ _ _
    | sl s n f ad c U hn hI hs hc hrr =>
      refine .sl s n g ad c U hn hI (fun i hi => by rw [← h i hi]; exact hs i hi) (fun i j d hi hd => hc i j d hi (by rw [h i hi]; exact hd)) (fun i j d hi hd => hrr i j d hi (by rw [h i hi]; exact hd))
  | nil s g =>
    generalize hx : D.v (.slice none 0 0) = d at hr
    cases hr <;> first | cases hx
    exact .slE _ _ _ _
theorem CEq.rep {Γ : Cx} {w : World} {c c' : C} {u : Value} (h : CEq c c') (hr : RepC Γ w c u) : RepC Γ w c' u := by
  cases h with
  | refl => exact hr
  | d x y h => exact h.rep hr
  | z s g => obtain ⟨A, rfl⟩ := hr; exact .slE _ _ _ _
  | tru => obtain rfl : u = _ := hr; exact .v _ rfl
  | fls => obtain rfl : u = _ := hr; exact .v _ rfl
theorem VEq.rep {Γ : Cx} {w : World} {v v' : V} {u : Value} (h : VEq v v') (hr : RepV Γ w v u) : RepV Γ w v' u := by
  cases h with
  | refl => exact hr
  | unk => exact .unk _
  | c x y h => cases hr with | c _ _ hr => exact .c _ _ (h.rep hr)
  | agg xs ys hl h =>
    cases hr with
    | agg _ us hu hr =>
      refine .agg _ _ (by rw [hu, hl]) (fun i c u hc hu' => ?_)
      have hi : i < xs.length := by rw [hl]; exact (List.getElem?_eq_some_iff.1 hc).1
      exact (h i xs[i] c (List.getElem?_eq_getElem hi) hc).rep (hr i xs[i] u (List.getElem?_eq_getElem hi) hu')
/-- The names in a value lie below n. -/
def cLt (n : Nat) : C → Prop
  | .fn _ ids => ∀ i ∈ ids, i < n
  | .bp id _ => id < n
  | .ep id _ _ _ => id < n
  | .ms id _ => id < n
  | .yd id => id < n
  | _ => True
def csLt (n : Nat) : List C → Prop
  | [] => True
  | c :: cs => cLt n c ∧ csLt n cs
def vLt (n : Nat) : V → Prop
  | .c x => cLt n x
  | .agg cs => csLt n cs
  | .tup _ => False
  | .unk => True
def envLt (n : Nat) : List (Nat × V) → Prop
  | [] => True
  | (_, v) :: e => vLt n v ∧ envLt n e
def eLt (n : Nat) : Ent → Prop
  | .box cs => csLt n cs
  | .row .. => True
  | .lp env _ _ _ => envLt n env
theorem envLt_lk {n : Nat} : ∀ {env : List (Nat × V)}, envLt n env → ∀ t, vLt n (lk env t)
  | [], _, _ => trivial
  | (a, v) :: e, h, t => by
    simp only [lk]
    split
    · exact h.1
    · exact envLt_lk h.2 t
theorem csLt_get {n : Nat} : ∀ {cs : List C}, csLt n cs → ∀ {i : Nat} {c : C}, cs[i]? = some c → cLt n c
  | [], _, i, c, h => by simp at h
  | x :: cs, hl, i, c, h => by
    cases i with
    | zero => simp at h; subst h; exact hl.1
    | succ i => exact csLt_get hl.2 (by simpa using h)
/-- Every slot that the head names holds its value (renamed). -/
def envOk (n0 : Nat) (π : Nat → Nat) (env : List (Nat × V)) : List (Nat × V) → Prop
  | [] => True
  | (t, v) :: e0 => (VEq (lk env t) (rnV π v) ∧ vLt n0 v) ∧ envOk n0 π env e0
def rnE (π : Nat → Nat) : Ent → Ent
  | .box cs => .box (cs.map (rnC π))
  | .row e s n f fz => .row e s n f fz
  | .lp env st j R => .lp (env.map fun p => (p.1, rnV π p.2)) st j R
theorem lk_map {π : Nat → Nat} : ∀ (env : List (Nat × V)) (t : Nat), lk (env.map fun p => (p.1, rnV π p.2)) t = rnV π (lk env t)
  | [], _ => rfl
  | (a, v) :: e, t => by
    simp only [List.map_cons, lk]
    split
    · rfl
    · exact lk_map e t
/-- Every entry of the head's store is there (renamed). -/
def stoOk (n0 : Nat) (π : Nat → Nat) (σ σ0 : Store) : Prop := ∀ id x, get σ0 id = some x → id < n0 ∧ eLt n0 x ∧ ∃ y, get σ (π id) = some y ∧ EEq y (rnE π x)
theorem stoOk.nil {n0 : Nat} {π : Nat → Nat} {σ : Store} : stoOk n0 π σ [] := fun id x h => by simp [get] at h
theorem stoOk.cons {n0 : Nat} {π : Nat → Nat} {σ σ0 : Store} {id : Nat} {x : Ent} (h1 : id < n0) (h2 : eLt n0 x) (h3 : ∃ y, get σ (π id) = some y ∧ EEq y (rnE π x)) (h : stoOk n0 π σ σ0) : stoOk n0 π σ ((id, x) :: σ0) := fun j y hy => by
  by_cases hj : j = id
  · subst hj; rw [get_cons_same] at hy; cases hy; exact ⟨h1, h2, h3⟩
  · rw [get_cons_other hj] at hy; exact h j y hy
structure Wk (base : Nat) (st st0 : St) (π : Nat → Nat) : Prop where
  fix : ∀ i, i < base → π i = i
  inj : ∀ i j, i < st0.nx → j < st0.nx → π i = π j → i = j
  le : base ≤ st0.nx
  env : envOk st0.nx π st.env st0.env
  sto : stoOk st0.nx π st.σ st0.σ
/-- Names given anew. -/
def Cx.ren (Γ : Cx) (π : Nat → Nat) (n0 : Nat) : Cx := { I := Γ.I, ρ := fun i => if i < n0 then Γ.ρ (π i) else none, κ := fun i => Γ.κ (π i) }
theorem ren_rep {Γ : Cx} {w : World} {π : Nat → Nat} {n0 : Nat} {c : C} {u : Value} (hl : cLt n0 c) (h : RepC Γ w (rnC π c) u) : RepC (Γ.ren π n0) w c u := by
  cases c with
  | d x => exact h
  | tru => exact h
  | fls => exact h
  | z => exact h
  | rp row => exact h
  | fn f ids =>
    obtain ⟨bs, h1, h2, h3⟩ := h
    refine ⟨bs, by rw [h1]; simp, fun j i hj => ?_, h3⟩
    have hi : i < n0 := hl i (List.mem_of_getElem? hj)
    obtain ⟨b, hb, hb'⟩ := h2 j (π i) (by simp [hj])
    exact ⟨b, by simp [Cx.ren, hi, hb], hb'⟩
  | bp id off =>
    obtain ⟨b, hb, hu⟩ := h
    exact ⟨b, by simp [Cx.ren, show id < n0 from hl, hb], hu⟩
  | ep id s i j =>
    obtain ⟨b, hb, hu⟩ := h
    exact ⟨b, by simp [Cx.ren, show id < n0 from hl, hb], hu⟩
  | ms id n =>
    obtain ⟨b, hb, hu⟩ := h
    exact ⟨b, by simp [Cx.ren, show id < n0 from hl, hb], hu⟩
  | yd id =>
    obtain ⟨b, hb, hu⟩ := h
    exact ⟨b, by simp [Cx.ren, show id < n0 from hl, hb], hu⟩
theorem ren_repV {Γ : Cx} {w : World} {π : Nat → Nat} {n0 : Nat} {v : V} {u : Value} (hl : vLt n0 v) (h : RepV Γ w (rnV π v) u) : RepV (Γ.ren π n0) w v u := by
  cases v with
  | c x => cases h with | c _ _ h => exact .c _ _ (ren_rep hl h)
  | agg cs =>
    cases h with
    | agg _ us hu hr =>
      refine .agg _ _ (by rw [hu]; simp) (fun i c u hc hu' => ren_rep (csLt_get hl hc) (hr i (rnC π c) u (by simp [hc]) hu'))
  | tup vs => exact hl.elim
  | unk => exact .unk _
theorem EEq.ent {Γ : Cx} {w : World} {id b : Nat} {x y : Ent} (h : EEq x y) (he : EntOk Γ w id b x) : EntOk Γ w id b y := by
  cases h with
  | box xs ys hl h =>
    obtain ⟨h1, us, t, h2, h3, h4⟩ := he
    refine ⟨h1, us, t, h2, by rw [h3, hl], fun i c hc => ?_⟩
    have hi : i < xs.length := by rw [hl]; exact (List.getElem?_eq_some_iff.1 hc).1
    obtain ⟨u, hu, hr⟩ := h4 i xs[i] (List.getElem?_eq_getElem hi)
    exact ⟨u, hu, (h i xs[i] c (List.getElem?_eq_getElem hi) hc).rep hr⟩
  | row e s n f g fz h =>
    rcases he with h1 | ⟨c, h1, h2, h3, h4, h5, h6, us, h7, h8, h9⟩
    · exact .inl h1
    · exact .inr ⟨c, h1, h2, h3, h4, h5, fun i hi => by rw [← h i hi]; exact h6 i hi, us, h7, h8, fun i j d hi hd => h9 i j d hi (by rw [h i hi]; exact hd)⟩
  | lp env env' st j R h =>
    obtain ⟨h1, r, h2, h3, h4, h5, h6⟩ := he
    exact ⟨h1, r, h2, h3, h4, h5, fun t => (h t).rep (h6 t)⟩
theorem EEq.live {Γ : Cx} {id : Nat} {x y : Ent} (h : EEq x y) : LiveE Γ id y ↔ LiveE Γ id x := by
  cases h <;> exact Iff.rfl
theorem weaken_core {B0 : Nat} {Γ : Cx} {w : World} {a : Act} {st0 : St} {π : Nat → Nat} (hsize : a.tmps.size = N) (henv0 : ∀ t, RepV Γ w (lk st.env t) (a.tmps.getD t undef)) (hok0 : StoreOk Γ w st.σ)
    (hdfs : ∃ Ds : List Nat, a.defers = Ds.map mkD ∧ (Ds.Nodup ∧ B0 ≤ w.heap.size) ∧ ∀ D ∈ Ds, B0 ≤ D ∧ ¬ Γ.I D ∧ ¬ Live Γ st.σ D ∧ w.heap[D]? = some (.deferred (some []))) (hw : Wk base st st0 π) :
    Conc N B0 base (Γ.ren π st0.nx) w st0 a ∧ Ext base Γ w st.σ (Γ.ren π st0.nx) w st0.σ := by
  have hent : ∀ id x, get st0.σ id = some x → ∃ b y, get st.σ (π id) = some y ∧ EEq y (rnE π x) ∧ Γ.ρ (π id) = some b ∧ (Γ.ren π st0.nx).ρ id = some b ∧ EntOk Γ w (π id) b y := fun id x hx => by
    obtain ⟨h1, h2, y, hy, he⟩ := hw.sto id x hx
    obtain ⟨b, hb, hok⟩ := hok0.ok _ _ hy
    exact ⟨b, y, hy, he, hb, by simp [Cx.ren, h1, hb], hok⟩
  have hlive : ∀ id, LiveId (Γ.ren π st0.nx) st0.σ id → id < st0.nx ∧ LiveId Γ st.σ (π id) := fun id hl => by
    obtain ⟨x, hx, hlx⟩ := liveId_iff.1 hl
    obtain ⟨h1, _, y, hy, he⟩ := hw.sto id x hx
    refine ⟨h1, liveId_iff.2 ⟨y, hy, ?_⟩⟩
    rw [← he.live]
    cases x with
    | box cs => trivial
    | row e s n f fz => exact hlx
    | lp env st j R => trivial
  have hlk : ∀ k, Live (Γ.ren π st0.nx) st0.σ k → Live Γ st.σ k := fun k ⟨id, hl, hk⟩ => by
    obtain ⟨h1, h2⟩ := hlive id hl
    exact ⟨π id, h2, by simpa [Cx.ren, h1] using hk⟩
  refine ⟨⟨hsize, fun t => ?_, ⟨hok0.im, fun id x hx => ?_, fun i j k hi hj hki hkj => ?_⟩, fun id hid => ?_, hw.le, ?_⟩, ⟨rfl, rfl, rfl, Nat.le_refl _, fun _ h => h, fun _ h => .inl h, fun id hid => ?_, fun id hid => ?_, fun _ _ _ => rfl, fun k hk => .inl (hlk k hk)⟩⟩
  · have henv : ∀ (e0 : List (Nat × V)), envOk st0.nx π st.env e0 → RepV (Γ.ren π st0.nx) w (lk e0 t) (a.tmps.getD t undef) := by
      intro e0
      induction e0 with
      | nil => intro _; exact .unk _
      | cons p e0 ih =>
        obtain ⟨t', v⟩ := p
        intro h
        rw [lk_cons]
        split
        · rename_i ht; subst ht
          exact ren_repV h.1.2 (h.1.1.rep (henv0 _))
        · exact ih h.2
    exact henv _ hw.env
  · obtain ⟨b, y, hy, he, hb, hb', hok⟩ := hent id x hx
    obtain ⟨_, hlt, _⟩ := hw.sto id x hx
    refine ⟨b, hb', ?_⟩
    have hok' := he.ent hok
    cases x with
    | box cs =>
      obtain ⟨h1, us, t, h2, h3, h4⟩ := hok'
      refine ⟨h1, us, t, h2, by rw [h3]; simp, fun i c hc' => ?_⟩
      obtain ⟨u, hu, hr⟩ := h4 i (rnC π c) (by simp [hc'])
      exact ⟨u, hu, ren_rep (csLt_get hlt hc') hr⟩
    | row e s n f fz => exact hok'
    | lp env st j R =>
      obtain ⟨h1, r, h2, h3, h4, h5, h6⟩ := hok'
      exact ⟨h1, r, h2, h3, h4, h5, fun t => ren_repV (envLt_lk hlt t) (by rw [← lk_map]; exact h6 t)⟩
  · obtain ⟨h1, h2⟩ := hlive i hi
    obtain ⟨h3, h4⟩ := hlive j hj
    exact hw.inj i j h1 h3 (hok0.inj _ _ k h2 h4 (by simpa [Cx.ren, h1] using hki) (by simpa [Cx.ren, h3] using hkj))
  · simp [Cx.ren, Nat.not_lt.2 hid]
  · obtain ⟨Ds, h1, h2, h3⟩ := hdfs
    refine ⟨Ds, h1, h2, fun D hD => ?_⟩
    obtain ⟨h4, h5, h6, h7⟩ := h3 D hD
    exact ⟨h4, h5, fun hl => h6 (hlk D hl), h7⟩
  · have := hw.le
    simp [Cx.ren, show id < st0.nx by omega, hw.fix id hid]
  · simp [Cx.ren, hw.fix id hid]
theorem Conc.weaken {B0 : Nat} {Γ : Cx} {w : World} {a : Act} {st0 : St} {π : Nat → Nat} (hc : Conc N B0 base Γ w st a) (hw : Wk base st st0 π) :
    Conc N B0 base (Γ.ren π st0.nx) w st0 a ∧ Ext base Γ w st.σ (Γ.ren π st0.nx) w st0.σ := weaken_core hc.size hc.env hc.ok hc.dfs hw
/-- What st stands for, st1 stands for too. -/
def Mv (base : Nat) (st st1 : St) : Prop :=
  ∀ (N B0 : Nat) (Γ : Cx) (w : World) (a : Act), Conc N B0 base Γ w st a → ∃ Γ', Conc N B0 base Γ' w st1 a ∧ Ext base Γ w st.σ Γ' w st1.σ
theorem Mv.refl (base : Nat) (st : St) : Mv base st st := fun _ _ Γ _ _ h => ⟨Γ, h, Ext.refl _ _ _ _⟩
theorem Mv.trans {base : Nat} {s1 s2 s3 : St} (h : Mv base s1 s2) (k : Mv base s2 s3) : Mv base s1 s3 := fun N B0 Γ w a hc => by
  obtain ⟨Γ1, h1, h2⟩ := h N B0 Γ w a hc
  obtain ⟨Γ2, h3, h4⟩ := k N B0 Γ1 w a h1
  exact ⟨Γ2, h3, h2.trans h4⟩
theorem Mv.weaken {base : Nat} {st st0 : St} {π : Nat → Nat} (h : Wk base st st0 π) : Mv base st st0 := fun _ _ _ _ _ hc => ⟨_, hc.weaken h⟩
theorem Sat.weaken {st0 : St} {π : Nat → Nat} (hw : Wk base st st0 π) (h : Sat P N base x st0 Q) : Sat P N base x st Q := by
  intro ro n B0 own code hro hl Γ0 Γ w0 w σ0 a hc hext
  obtain ⟨h1, h2⟩ := hc.weaken hw
  exact h ro n B0 own code hro hl Γ0 _ w0 w σ0 a h1 (hext.trans h2)
theorem Ops.weaken {ops : List LIns} {K : St → Prop} {st0 : St} {π : Nat → Nat} (hw : Wk base st st0 π) (h : Ops P N base ops st0 K) : Ops P N base ops st K := by
  intro ro n B0 own opsA idx os hl hidx Γ0 Γ w0 w σ0 a hc hext
  obtain ⟨h1, h2⟩ := hc.weaken hw
  exact h ro n B0 own opsA idx os hl hidx Γ0 _ w0 w σ0 a h1 (hext.trans h2)
theorem exists_least (p : Nat → Prop) (h : ∃ n, p n) : ∃ n, p n ∧ ∀ m, p m → n ≤ m := by
  obtain ⟨n, hn⟩ := h
  induction n using Nat.strongRecOn with
  | _ n ih =>
    by_cases h : ∃ m, m < n ∧ p m
    · obtain ⟨m, hm, hp⟩ := h; exact ih m hm hp
    · exact ⟨n, hn, fun m hm => Nat.le_of_not_lt (fun hlt => h ⟨m, hlt, hm⟩)⟩
def loopQ {ι : Type} (base : Nat) (inv : ι → St) (pre : ι → Prop) (μ : ι → Nat) (i : ι) (Q : Exit → St → Prop) : Exit → St → Prop
  | .normal, st' => ∃ j π, pre j ∧ μ j < μ i ∧ Wk base st' (inv j) π
  | e, st' => Q e st'
/-- A loop: a family of heads, a measure that each round lowers. -/
theorem Sat.loop {ι : Type} (inv : ι → St) (pre : ι → Prop) (μ : ι → Nat) (i0 : ι) (π0 : Nat → Nat) (h0 : pre i0) (hw : Wk base st (inv i0) π0)
    (round : ∀ i, pre i → Sat P N base x (inv i) (loopQ base inv pre μ i Q)) : Sat P N base (.loop x) st Q := by
  intro ro n B0 own code hro hl Γ0 Γ w0 w σ0 a hc hext
  obtain ⟨c1, rfl, h1⟩ := low_loop hl
  let R : ι → Act → World → Prop := fun i a w => pre i ∧ ∃ Γ, Conc N B0 base Γ w (inv i) a ∧ Ext base Γ0 w0 σ0 Γ w (inv i).σ
  let I : Act → World → Prop := fun a w => ∃ i, R i a w
  have hleast : ∀ a w, ∃ m, (I a w → (∃ i, R i a w ∧ μ i = m) ∧ ∀ i, R i a w → m ≤ μ i) := fun a w => by
    by_cases h : I a w
    · obtain ⟨i, hi⟩ := h
      obtain ⟨m, ⟨j, hj, hm⟩, hmin⟩ := exists_least (fun m => ∃ i, R i a w ∧ μ i = m) ⟨μ i, i, hi, rfl⟩
      exact ⟨m, fun _ => ⟨⟨j, hj, hm⟩, fun i hi => hmin _ ⟨i, hi, rfl⟩⟩⟩
    · exact ⟨0, fun hI => absurd hI h⟩
  let M : Act → World → Nat := fun a w => Classical.choose (hleast a w)
  have hM : ∀ a w, I a w → (∃ i, R i a w ∧ μ i = M a w) ∧ ∀ i, R i a w → M a w ≤ μ i := fun a w => Classical.choose_spec (hleast a w)
  obtain ⟨hc0, hext0⟩ := hc.weaken hw
  refine wpIn_loop I M ⟨i0, h0, _, hc0, hext.trans hext0⟩ (fun a w hI => ?_)
  obtain ⟨⟨i, ⟨hp, Γ1, hc1, hext1⟩, hmi⟩, _⟩ := hM a w hI
  refine wpIn_mono (round i hp ro n B0 own c1 hro h1 Γ0 Γ1 w0 w σ0 a hc1 hext1) (fun e a' w' ⟨Γ', st', h3, h4, h5⟩ => ?_)
  cases e with
  | normal =>
    obtain ⟨j, π, hj, hlt, hwk⟩ := h5
    obtain ⟨h6, h7⟩ := h3.weaken hwk
    have hR : R j a' w' := ⟨hj, _, h6, h4.trans h7⟩
    have hI' : I a' w' := ⟨j, hR⟩
    refine ⟨hI', ?_⟩
    have := (hM a' w' hI').2 j hR
    omega
  | _ => exact ⟨Γ', st', h3, h4, h5⟩
end
end Go.Pw

namespace Go.Pw
open Go Go.RowKit
def cx (I : Nat → Prop) : Cx := { I := I, ρ := fun _ => none, κ := fun _ => none }
/-- Function f, called with these data, returns; what it returns R takes. -/
def PF (P : Program) (f : FuncId) (args : List V) (R : V → Prop) : Prop :=
  ∀ (I : Nat → Prop) (w : World) (us : Array Value), (∀ k, I k → k < w.heap.size) → us.size = args.length → (∀ (i : Nat) v u, args[i]? = some v → us[i]? = some u → RepV (cx I) w v u) →
    Calls P f us w fun e w' => ∃ v u I', e = .returned u ∧ R v ∧ RepV (cx I') w' v u ∧ (∀ k, I k → I' k) ∧ (∀ k, I' k → I k ∨ w.heap.size ≤ k) ∧ (∀ k, I' k → k < w'.heap.size) ∧ Below w.heap.size w w'
theorem PF.mono {P : Program} {f : FuncId} {args : List V} {R R' : V → Prop} (h : PF P f args R) (hr : ∀ v, R v → R' v) : PF P f args R' := by
  intro I w us hI hu ha
  exact (h I w us hI hu ha).mono (fun e w' ⟨v, u, I', h1, h2, h3⟩ => ⟨v, u, I', h1, hr v h2, h3⟩)
inductive ArgC : C → C → Prop
  | d (x : D) : ArgC (.d x) (.d x)
  | deq (x y : D) (h : DEq x y) : ArgC (.d x) (.d y)
  | tru : ArgC .tru (.d (.v (.bool true)))
  | fls : ArgC .fls (.d (.v (.bool false)))
  | rp (r : List D) : ArgC (.rp r) (.rp r)
  | fn (f : FuncId) : ArgC (.fn f []) (.fn f [])
  | nil (s : Nat) (g : Nat → List D) : ArgC (.d (.v (.slice none 0 0))) (.d (.sl s 0 g))
  | z (s : Nat) (g : Nat → List D) : ArgC .z (.d (.sl s 0 g))
inductive ArgCs : List C → List C → Prop
  | nil : ArgCs [] []
  | cons {x y : C} {xs ys : List C} (h : ArgC x y) (t : ArgCs xs ys) : ArgCs (x :: xs) (y :: ys)
inductive ArgV : V → V → Prop
  | c {x y : C} (h : ArgC x y) : ArgV (.c x) (.c y)
  | agg {xs ys : List C} (h : ArgCs xs ys) : ArgV (.agg xs) (.agg ys)
inductive ArgL : List V → List V → Prop
  | nil : ArgL [] []
  | cons {x y : V} {xs ys : List V} (h : ArgV x y) (t : ArgL xs ys) : ArgL (x :: xs) (y :: ys)
theorem ArgC.rep {Γ : Cx} {w : World} {c c' : C} {u : Value} (h : ArgC c c') (hr : RepC Γ w c u) : RepC (cx Γ.I) w c' u := by
  cases h with
  | d x => exact hr
  | deq x y h => exact h.rep hr
  | tru => obtain rfl : u = _ := hr; exact .v _ rfl
  | fls => obtain rfl : u = _ := hr; exact .v _ rfl
  | rp r => exact hr
  | fn f =>
    obtain ⟨bs, h1, _, h3⟩ := hr
    have : bs = [] := by simpa using h1
    subst this
    exact ⟨[], rfl, by simp, h3⟩
  | nil s g =>
    generalize hd : D.v (.slice none 0 0) = d at hr
    cases (show RepD Γ.I w d u from hr) <;> first | cases hd
    exact .slE _ _ _ _
  | z s g => obtain ⟨A, rfl⟩ := hr; exact .slE _ _ _ _
theorem ArgCs.length {xs ys : List C} (h : ArgCs xs ys) : xs.length = ys.length := by
  induction h with
  | nil => rfl
  | cons _ _ ih => simp [ih]
theorem ArgCs.get {xs ys : List C} (h : ArgCs xs ys) : ∀ {i : Nat} {y : C}, ys[i]? = some y → ∃ x, xs[i]? = some x ∧ ArgC x y := by
  induction h with
  | nil => intro i y h; simp at h
  | cons h t ih =>
    intro i y hy
    cases i with
    | zero => simp at hy; subst hy; exact ⟨_, rfl, h⟩
    | succ i => exact ih (by simpa using hy)
theorem ArgV.rep {Γ : Cx} {w : World} {v v' : V} {u : Value} (h : ArgV v v') (hr : RepV Γ w v u) : RepV (cx Γ.I) w v' u := by
  cases h with
  | c h => cases hr with | c _ _ hr => exact .c _ _ (h.rep hr)
  | agg h =>
    cases hr with
    | agg _ us hu hr =>
      refine .agg _ _ (by rw [hu, h.length]) (fun i c u hc hu' => ?_)
      obtain ⟨x, hx, hxy⟩ := h.get hc
      exact hxy.rep (hr i x u hx hu')
theorem ArgL.length {xs ys : List V} (h : ArgL xs ys) : xs.length = ys.length := by
  induction h with
  | nil => rfl
  | cons _ _ ih => simp [ih]
theorem ArgL.get {xs ys : List V} (h : ArgL xs ys) : ∀ {i : Nat} {y : V}, ys[i]? = some y → ∃ x, xs[i]? = some x ∧ ArgV x y := by
  induction h with
  | nil => intro i y h; simp at h
  | cons h t ih =>
    intro i y hy
    cases i with
    | zero => simp at hy; subst hy; exact ⟨_, rfl, h⟩
    | succ i => exact ih (by simpa using hy)
section
variable {P : Program} {N base : Nat} {st : St} {K : St → Prop} {rest : List LIns} {i : LIns}
end
end Go.Pw

namespace Go.Pw
open Go Go.RowKit
section
variable {ev ev' : Operand → V} {R : Type}
theorem ids_congr : ∀ (xs : List Operand) (k : List Nat → Option R), (∀ x ∈ xs, ev x = ev' x) → ids ev xs k = ids ev' xs k
  | [], _, _ => rfl
  | x :: xs, k, h => by
    simp only [ids, h x (by simp)]
    split
    · exact ids_congr xs _ fun y hy => h y (by simp [hy])
    · rfl
theorem bld_congr : ∀ (ps : List (Nat × Nat × Operand)) (cs : List C) (k : List C → Option R), (∀ x ∈ ps.map (·.2.2), ev x = ev' x) → bld ev ps cs k = bld ev' ps cs k
  | [], _, _, _ => rfl
  | (off, n, x) :: ps, cs, k, h => by
    simp only [bld, h x (by simp)]
    split
    · split
      · simp only [frc_eq]; exact bld_congr ps _ _ fun y hy => h y (by simp at hy ⊢; exact .inr hy)
      · rfl
    · rfl
theorem rowsOf_congr {s : Nat} : ∀ (xs : List Operand) (k : List (List D) → Option R), (∀ x ∈ xs, ev x = ev' x) → rowsOf ev s xs k = rowsOf ev' s xs k
  | [], _, _ => rfl
  | x :: xs, k, h => by
    simp only [rowsOf, h x (by simp)]
    have ih := fun k : List (List D) → Option R => rowsOf_congr (s := s) xs k fun y hy => h y (by simp [hy])
    simp only [ih]
theorem mmx_congr {g : Bool} {k : IntKind} : ∀ (xs : List Operand) (a : Int), (∀ x ∈ xs, ev x = ev' x) → mmx g ev k xs a = mmx g ev' k xs a
  | [], _, _ => rfl
  | x :: xs, a, h => by
    simp only [mmx, h x (by simp)]
    have ih := fun (a : Int) => mmx_congr (g := g) (k := k) xs a fun y hy => h y (by simp [hy])
    simp only [ih]
theorem xop_congr {σ : Store} {nx : Nat} (op : LOp) (h : ∀ x ∈ op.opnds, ev x = ev' x) : xop ev σ nx op = xop ev' σ nx op := by
  cases op with
  | build z ps =>
    have h : ∀ x ∈ ps.map (·.2.2), ev x = ev' x := h
    have key := fun (cs : List C) (k : List C → Option Res) => bld_congr ps cs k h
    simp only [xop, key]
  | lit own e s ps =>
    have h : ∀ x ∈ ps, ev x = ev' x := h
    have key := fun (k : List (List D) → Option Res) => rowsOf_congr (s := s) ps k h
    simp only [xop, key]
  | mkfn f caps =>
    have h : ∀ x ∈ caps, ev x = ev' x := h
    have key := fun (k : List Nat → Option Res) => ids_congr caps k h
    simp only [xop, key]
  | mm g xs =>
    cases xs with
    | nil => rfl
    | cons x xs =>
      simp only [LOp.opnds] at h
      have key := fun (k : IntKind) (a : Int) => mmx_congr (g := g) (k := k) xs a fun y hy => h y (by simp [hy])
      simp only [xop, h x (by simp), key]
  | slc s x lo hi =>
    simp only [LOp.opnds, List.mem_cons, List.mem_append] at h
    simp only [xop, h x (.inl rfl)]
    cases lo with
    | none => cases hi with
      | none => rfl
      | some b => simp only [h b (by simp)]
    | some a => cases hi with
      | none => simp only [h a (by simp)]
      | some b => simp only [h a (by simp), h b (by simp)]
  | _ => simp only [LOp.opnds, List.mem_cons, List.not_mem_nil, or_false, forall_eq_or_imp, forall_eq] at h <;> simp only [xop, h]
end
def delD : List Nat → Store → Store
  | [], σ => σ
  | i :: is, σ => del (delD is σ) i
def catS : Store → Store → Store
  | [], τ => τ
  | p :: σ, τ => p :: catS σ τ
def dom : Store → List Nat
  | [] => []
  | (i, _) :: σ => i :: dom σ
/-- The store once its part σ0 has become σ1. -/
def app (σ0 σ1 σ : Store) : Store := catS σ1 (delD (dom σ0) σ)
theorem get_cons {σ : Store} {i j : Nat} {e : Ent} : get ((i, e) :: σ) j = if i = j then some e else get σ j := by
  by_cases h : i = j
  · subst h; rw [get_cons_same, if_pos rfl]
  · rw [get_cons_other (Ne.symm h), if_neg h]
theorem get_none_dom {σ : Store} {id : Nat} : get σ id = none ↔ id ∉ dom σ := by
  induction σ with
  | nil => simp [get, dom]
  | cons p σ ih =>
    obtain ⟨i, e⟩ := p
    rw [get_cons]
    by_cases h : i = id
    · simp [h, dom]
    · rw [if_neg h, ih]; simp [dom, Ne.symm h]
theorem get_some_dom {σ : Store} {id : Nat} {e : Ent} (h : get σ id = some e) : id ∈ dom σ := by
  by_cases h' : id ∈ dom σ
  · exact h'
  · rw [get_none_dom.2 h'] at h; cases h
theorem get_delD {σ : Store} {id : Nat} : ∀ (l : List Nat), get (delD l σ) id = if id ∈ l then none else get σ id
  | [] => by simp [delD]
  | i :: l => by
    simp only [delD]
    by_cases h : id = i
    · subst h; rw [get_del_same]; simp
    · rw [get_del_other h, get_delD l]; simp [h]
theorem get_catS {σ τ : Store} {id : Nat} : get (catS σ τ) id = match get σ id with | some e => some e | none => get τ id := by
  induction σ with
  | nil => rfl
  | cons p σ ih =>
    obtain ⟨i, e⟩ := p
    simp only [catS, get_cons]
    by_cases h : i = id
    · simp [h]
    · simp only [h, if_false]; exact ih
theorem get_app {σ0 σ1 σ : Store} {id : Nat} : get (app σ0 σ1 σ) id = match get σ1 id with | some e => some e | none => if id ∈ dom σ0 then none else get σ id := by
  unfold app
  rw [get_catS, get_delD]
theorem get_app_other {σ0 σ1 σ : Store} {id : Nat} (h0 : id ∉ dom σ0) (h1 : id ∉ dom σ1) : get (app σ0 σ1 σ) id = get σ id := by
  rw [get_app, get_none_dom.2 h1]; simp [h0]
def Sub (σ0 σ : Store) : Prop := ∀ id e, get σ0 id = some e → get σ id = some e
theorem liveId_of_get {Γ : Cx} {σ τ : Store} {id : Nat} (h : get σ id = get τ id) : LiveId Γ σ id ↔ LiveId Γ τ id := by
  rw [liveId_iff, liveId_iff, h]
theorem StoreOk.sub {Γ : Cx} {w : World} {σ σ0 : Store} (h : StoreOk Γ w σ) (hs : Sub σ0 σ) : StoreOk Γ w σ0 := by
  have hl : ∀ i, LiveId Γ σ0 i → LiveId Γ σ i := fun i hi => by
    obtain ⟨e, he, hle⟩ := liveId_iff.1 hi
    exact liveId_iff.2 ⟨e, hs i e he, hle⟩
  exact ⟨h.im, fun id e he => h.ok id e (hs id e he), fun i j k hi hj => h.inj i j k (hl i hi) (hl j hj)⟩
theorem live_sub {Γ : Cx} {σ σ0 : Store} (hs : Sub σ0 σ) {k : Nat} (h : Live Γ σ0 k) : Live Γ σ k := by
  obtain ⟨i, hi, hk⟩ := h
  obtain ⟨e, he, hle⟩ := liveId_iff.1 hi
  exact ⟨i, liveId_iff.2 ⟨e, hs i e he, hle⟩, hk⟩
theorem frame {base : Nat} {Γ Γ' : Cx} {w w' : World} {σ σ0 σ1 : Store} (h : StoreOk Γ w σ) (hs : Sub σ0 σ) (h1 : StoreOk Γ' w' σ1) (hle : CxLe Γ Γ') (hext : Ext base Γ w σ0 Γ' w' σ1) : StoreOk Γ' w' (app σ0 σ1 σ) ∧ Ext base Γ w σ Γ' w' (app σ0 σ1 σ) := by
  have h0 := h.sub hs
  have hsame : Same Γ.I w w' := hext.same h0
  -- an entry that is left: it lay in σ, not in σ0
  have hleft : ∀ id e, get σ1 id = none → get (app σ0 σ1 σ) id = some e → id ∉ dom σ0 ∧ get σ id = some e := fun id e h2 h3 => by
    rw [get_app, h2] at h3
    simp only at h3
    split at h3
    · cases h3
    · exact ⟨by assumption, h3⟩
  have hnl : ∀ id e b, id ∉ dom σ0 → get σ id = some e → LiveE Γ id e → Γ.ρ id = some b → ¬ Live Γ σ0 b := fun id e b h2 h3 h4 h5 ⟨j, hj, hjb⟩ => by
    obtain ⟨x, hx, hxl⟩ := liveId_iff.1 hj
    have := h.inj j id b (liveId_iff.2 ⟨x, hs j x hx, hxl⟩) (liveId_iff.2 ⟨e, h3, h4⟩) hjb h5
    subst this
    exact h2 (get_some_dom hx)
  have hkeep : ∀ id e b, id ∉ dom σ0 → get σ id = some e → Γ.ρ id = some b → HasB Γ id e → w'.heap[b]? = w.heap[b]? ∧ (¬ Γ.I b → ¬ Γ'.I b) := fun id e b h2 h3 h4 h5 => by
    obtain ⟨b', hb', hok⟩ := h.ok id e h3
    rw [h4] at hb'; cases hb'
    have hlt := hok.block h5
    rcases h.or_live h3 h4 h5 with h6 | h6
    · exact ⟨hsame b h6, fun hn => absurd h6 hn⟩
    · obtain ⟨x, hx, hxl⟩ := liveId_iff.1 h6
      rw [h3] at hx; cases hx
      have hn := hnl id e b h2 h3 hxl h4
      refine ⟨hext.keep b hlt hn, fun hI hI' => ?_⟩
      rcases hext.new b hI' with h7 | h7 | h7
      · exact hI h7
      · omega
      · exact hn h7
  have hlive : ∀ id b, LiveId Γ' (app σ0 σ1 σ) id → Γ'.ρ id = some b → (∃ e, get σ1 id = some e ∧ LiveE Γ' id e) ∨ (get σ1 id = none ∧ id ∉ dom σ0 ∧ LiveId Γ σ id ∧ Γ.ρ id = some b) := fun id b hl hb => by
    obtain ⟨e, he, hel⟩ := liveId_iff.1 hl
    cases hg : get σ1 id with
    | some e' =>
      rw [get_app, hg] at he
      cases he
      exact .inl ⟨_, rfl, hel⟩
    | none =>
      obtain ⟨h2, h3⟩ := hleft id e hg he
      obtain ⟨b', hb', _⟩ := h.ok id e h3
      have := hle.ρ id b' hb'
      rw [hb] at this; cases this
      exact .inr ⟨rfl, h2, liveId_iff.2 ⟨e, h3, (liveE_mono hle hb').1 hel⟩, hb'⟩
  have hmix : ∀ i j k, (∃ e, get σ1 i = some e ∧ LiveE Γ' i e) → Γ'.ρ i = some k → j ∉ dom σ0 → LiveId Γ σ j → Γ.ρ j = some k → False := fun i j k ⟨e, he, hel⟩ hik hj hjl hjk => by
    rcases hext.live k ⟨i, liveId_iff.2 ⟨e, he, hel⟩, hik⟩ with h2 | h2
    · obtain ⟨x, hx, hxl⟩ := liveId_iff.1 hjl
      exact hnl j x k hj hx hxl hjk h2
    · have := h.live_lt ⟨j, hjl, hjk⟩; omega
  refine ⟨⟨h1.im, fun id e he => ?_, fun i j k hi hj hki hkj => ?_⟩, ⟨hext.os, hext.tape, hext.output, hext.size, hext.im, fun k hk => ?_, hext.ρ, hext.κ, fun k hk hn => hext.keep k hk fun hl => hn (live_sub hs hl), fun k hk => ?_⟩⟩
  · cases hg : get σ1 id with
    | some e' =>
      rw [get_app, hg] at he
      cases he
      exact h1.ok id _ hg
    | none =>
      obtain ⟨h2, h3⟩ := hleft id e hg he
      obtain ⟨b, hb, hok⟩ := h.ok id e h3
      exact ⟨b, hle.ρ id b hb, hok.mono hb hle hsame (fun hB => (hkeep id e b h2 h3 hb hB).1) (fun hB => (hkeep id e b h2 h3 hb hB).2)⟩
  · rcases hlive i k hi hki with h2 | ⟨h2, h3, h4, h5⟩ <;> rcases hlive j k hj hkj with h6 | ⟨h6, h7, h8, h9⟩
    · obtain ⟨e, he, hel⟩ := h2
      obtain ⟨e', he', hel'⟩ := h6
      exact h1.inj i j k (liveId_iff.2 ⟨e, he, hel⟩) (liveId_iff.2 ⟨e', he', hel'⟩) hki hkj
    · exact (hmix i j k h2 hki h7 h8 h9).elim
    · exact (hmix j i k h6 hkj h3 h4 h5).elim
    · exact h.inj i j k h4 h8 h5 h9
  · rcases hext.new k hk with h2 | h2 | h2
    · exact .inl h2
    · exact .inr (.inl h2)
    · exact .inr (.inr (live_sub hs h2))
  · obtain ⟨id, hl, hid⟩ := hk
    rcases hlive id k hl hid with ⟨e, he, hel⟩ | ⟨_, _, h4, h5⟩
    · rcases hext.live k ⟨id, liveId_iff.2 ⟨e, he, hel⟩, hid⟩ with h6 | h6
      · exact .inl (live_sub hs h6)
      · exact .inr h6
    · exact .inl ⟨id, h4, h5⟩
end Go.Pw
