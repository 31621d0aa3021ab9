/- Rules for walking a function's code over a symbolic frame: what the slots hold is a list, what the memory holds is said by facts that stay true in later worlds. No program in sight but as a variable. -/
import Derived.WalkKit
import Derived.WalkSpells
import Derived.WalkLawsBesides
import Derived.Deep.Quiet
import Derived.Deep.LoopGhost
import Derived.Deep.AppendLies
set_option linter.all false
namespace Go.Proofs.Ytaolldhkmnfciaa
open Go.RowKit

def InI64 (x : Int) : Prop := -9223372036854775808 ≤ x ∧ x ≤ 9223372036854775807
def InU32 (x : Int) : Prop := 0 ≤ x ∧ x ≤ 4294967295

/-! ### worlds -/

/-- w' has all blocks of w, as they were -/
structure Ext (w w' : World) : Prop where
  os : w'.os = w.os
  tape : w'.tape = w.tape
  output : w'.output = w.output
  size : w.heap.size ≤ w'.heap.size
  block : ∀ k, k < w.heap.size → w'.heap[k]? = w.heap[k]?

/-- w' has all blocks of w but g as they were -/
structure Mod (g : Nat) (w w' : World) : Prop where
  os : w'.os = w.os
  tape : w'.tape = w.tape
  output : w'.output = w.output
  size : w.heap.size ≤ w'.heap.size
  block : ∀ k, k < w.heap.size → k ≠ g → w'.heap[k]? = w.heap[k]?

section
variable {a b c w w' : World} {g : Nat}
theorem Ext.refl (w : World) : Ext w w := ⟨rfl, rfl, rfl, Nat.le_refl _, fun _ _ => rfl⟩
theorem Ext.trans (h : Ext a b) (k : Ext b c) : Ext a c :=
  ⟨k.os.trans h.os, k.tape.trans h.tape, k.output.trans h.output, Nat.le_trans h.size k.size, fun i hi => (k.block i (Nat.lt_of_lt_of_le hi h.size)).trans (h.block i hi)⟩
theorem Ext.mod (h : Ext a b) (k : Mod g b c) (hg : a.heap.size ≤ g) : Ext a c :=
  ⟨k.os.trans h.os, k.tape.trans h.tape, k.output.trans h.output, Nat.le_trans h.size k.size, fun i hi => (k.block i (Nat.lt_of_lt_of_le hi h.size) (by omega)).trans (h.block i hi)⟩
theorem Ext.toMod (h : Ext a b) (g : Nat) : Mod g a b := ⟨h.os, h.tape, h.output, h.size, fun i hi _ => h.block i hi⟩
theorem Mod.ext (h : Mod g a b) (k : Ext b c) : Mod g a c :=
  ⟨k.os.trans h.os, k.tape.trans h.tape, k.output.trans h.output, Nat.le_trans h.size k.size, fun i hi hn => (k.block i (Nat.lt_of_lt_of_le hi h.size)).trans (h.block i hi hn)⟩
theorem Ext.thenMod (h : Ext a b) (k : Mod g b c) : Mod g a c :=
  ⟨k.os.trans h.os, k.tape.trans h.tape, k.output.trans h.output, Nat.le_trans h.size k.size, fun i hi hn => (k.block i (Nat.lt_of_lt_of_le hi h.size) hn).trans (h.block i hi)⟩
theorem Mod.trans (h : Mod g a b) (k : Mod g b c) : Mod g a c :=
  ⟨k.os.trans h.os, k.tape.trans h.tape, k.output.trans h.output, Nat.le_trans h.size k.size, fun i hi hn => (k.block i (Nat.lt_of_lt_of_le hi h.size) hn).trans (h.block i hi hn)⟩
theorem Mod.toExt (h : Mod g a b) (hg : a.heap.size ≤ g) : Ext a b := ⟨h.os, h.tape, h.output, h.size, fun i hi => h.block i hi (by omega)⟩
theorem Ext.drew (h : Ext a b) : Ext a b.drew := ⟨h.os, h.tape, h.output, h.size, h.block⟩
theorem Ext.alloc (w : World) (o : Obj) : Ext w (w.alloc o) := ⟨rfl, rfl, rfl, by simp, fun k hk => Below.heap_alloc w o k hk⟩
theorem Mod.setCell (w : World) (p : Addr) (u : Value) : Mod p.block w (w.setCell p u) :=
  ⟨rfl, rfl, rfl, by simp [World.setCell], fun k _ hn => Below.heap_setCell w p u k hn⟩
theorem Mod.of_grown {row : Option Nat} (h : w.grownBy w' row) (hr : ∀ k, row = some k → k = g) : Mod g w w' :=
  ⟨h.os, h.tape, h.output, h.size, fun k hk hn => h.block k hk (fun e => hn (hr k e.symm))⟩
theorem Ext.of_grown {row : Option Nat} (h : w.grownBy w' row) (hr : ∀ k, row = some k → w.heap.size ≤ k) : Ext w w' :=
  ⟨h.os, h.tape, h.output, h.size, fun k hk => h.block k hk (fun e => by have := hr k e.symm; omega)⟩
theorem Ext.below (h : Ext w w') : Below w.heap.size w w' := ⟨h.os, h.tape, h.output, h.size, h.block⟩
theorem Ext.of_below (h : Below w.heap.size w w') : Ext w w' := ⟨h.os, h.tape, h.output, h.size, h.block⟩
theorem Ext.cell {p : Addr} {v : Value} (h : Ext w w') (hc : w.cell? p = some v) : w'.cell? p = some v :=
  (World.cell?_of_block (w := w) (h.block p.block (World.block_lt_of_cell? w p hc))).trans hc
theorem Mod.cell {p : Addr} {v : Value} (h : Mod g w w') (hg : p.block ≠ g) (hc : w.cell? p = some v) : w'.cell? p = some v :=
  (World.cell?_of_block (w := w) (h.block p.block (World.block_lt_of_cell? w p hc) hg)).trans hc
end

/-! ### a block that is known whole -/
def Bx (w : World) (g : Nat) (t : TypeId) (cs : List Value) : Prop := w.heap[g]? = some (.cells cs.toArray t (0, 0))

section
variable {w w' : World} {g g' : Nat} {t : TypeId} {cs : List Value}
theorem Bx.lt (h : Bx w g t cs) : g < w.heap.size := by
  rcases Nat.lt_or_ge g w.heap.size with hlt | hge
  · exact hlt
  · unfold Bx at h; rw [Array.getElem?_eq_none hge] at h; cases h
theorem Bx.ext (h : Bx w g t cs) (e : Ext w w') : Bx w' g t cs := (e.block g h.lt).trans h
theorem Bx.mod (h : Bx w g t cs) (m : Mod g' w w') (hn : g ≠ g') : Bx w' g t cs := (m.block g h.lt hn).trans h
theorem Bx.cell (h : Bx w g t cs) (i : Nat) : w.cell? ⟨g, i, none⟩ = cs[i]? := by
  rw [cell_of_row w g i cs.toArray t (0, 0) h]; simp
theorem Bx.frozen (h : Bx w g t cs) (i : Nat) : w.frozen? ⟨g, i, none⟩ = false := by
  unfold Bx at h
  simp [World.frozen?, h]
theorem Bx.new (w : World) (t : TypeId) (cs : List Value) : Bx (w.alloc (.cells cs.toArray t)) w.heap.size t cs := heap_alloc_new w _
theorem Bx.set_ (h : Bx w g t cs) (i : Nat) (u : Value) : Bx (w.setCell ⟨g, i, none⟩ u) g t (cs.set i u) := by
  unfold Bx at h ⊢
  simp [World.setCell, Array.getElem?_modify, h]
end

/-! ### typed rows -/

/-- how an element lies in memory: so many cells, which say what it is; the blocks behind them are of S -/
structure Ty (α : Type) where
  k : Nat
  pos : 0 < k
  R : (S : Nat → Prop) → World → α → List Value → Prop
  len : ∀ {S w x cs}, R S w x cs → cs.length = k
  one : ∀ {S w x cs}, R S w x cs → ∀ u ∈ cs, u.oneCell' = true
  ext : ∀ {S w w' x cs}, Ext w w' → R S w x cs → R S w' x cs
  mod : ∀ {S w w' g x cs}, Mod g w w' → ¬ S g → R S w x cs → R S w' x cs
  sub : ∀ {S S' : Nat → Prop} {w x cs}, (∀ b, S b → S' b) → R S w x cs → R S' w x cs

/-- an element whose cells say all -/
def Ty.flat {α : Type} (k : Nat) (enc : α → List Value) (pos : 0 < k) (hl : ∀ x, (enc x).length = k) (h1 : ∀ x, ∀ u ∈ enc x, u.oneCell' = true) : Ty α where
  k := k
  pos := pos
  R := fun _ _ x cs => cs = enc x
  len := fun h => by rw [h, hl]
  one := fun h => by rw [h]; exact h1 _
  ext := fun _ h => h
  mod := fun _ _ h => h
  sub := fun _ h => h

def adr (A : Option Addr) : Addr := A.getD ⟨0, 0, none⟩

/-- the slice value '.slice A xs.length c' reads as xs; its block, and those behind it, are of S -/
structure Sl {α : Type} (τ : Ty α) (S : Nat → Prop) (w : World) (A : Option Addr) (c : Nat) (xs : List α) : Prop where
  cap : xs.length ≤ c
  max : c ≤ maxLen
  nil : A = none → c = 0
  rows : ∀ (i : Nat) (x : α), xs[i]? = some x → S (adr A).block ∧ ∃ cs, τ.R S w x cs ∧ ∀ j u, cs[j]? = some u → w.cell? ((adr A).add (i * τ.k + j)) = some u

theorem block_of_add (a : Addr) (n : Nat) : (a.add n).block = a.block := by unfold Addr.add; split <;> rfl
theorem add_of_add (a : Addr) (i j : Nat) : (a.add i).add j = a.add (i + j) := by
  unfold Addr.add
  by_cases hi : i = 0 <;> by_cases hj : j = 0 <;> simp [hi, hj, Nat.add_assoc]

theorem add_of_add_lit (a : Addr) (n i j : Nat) : (a.add (n + i)).add j = a.add (n + (i + j)) := by rw [add_of_add, Nat.add_assoc]
section
variable {α : Type} {τ : Ty α} {S S' : Nat → Prop} {w w' : World} {A : Option Addr} {c g : Nat} {xs : List α}
theorem Sl.none_ (τ : Ty α) (S : Nat → Prop) (w : World) : Sl τ S w none 0 [] :=
  ⟨by simp, by simp [maxLen], fun _ => rfl, fun i x h => by simp at h⟩
theorem Sl.ext (h : Sl τ S w A c xs) (e : Ext w w') : Sl τ S w' A c xs :=
  ⟨h.cap, h.max, h.nil, fun i x hx => by
    obtain ⟨h1, cs, h2, h3⟩ := h.rows i x hx
    exact ⟨h1, cs, τ.ext e h2, fun j u hu => e.cell (h3 j u hu)⟩⟩
theorem Sl.mod (h : Sl τ S w A c xs) (m : Mod g w w') (hg : ¬ S g) : Sl τ S w' A c xs :=
  ⟨h.cap, h.max, h.nil, fun i x hx => by
    obtain ⟨h1, cs, h2, h3⟩ := h.rows i x hx
    exact ⟨h1, cs, τ.mod m hg h2, fun j u hu => m.cell (fun e => hg (by rw [block_of_add] at e; rw [← e]; exact h1)) (h3 j u hu)⟩⟩
theorem Sl.sub (h : Sl τ S w A c xs) (hs : ∀ b, S b → S' b) : Sl τ S' w A c xs :=
  ⟨h.cap, h.max, h.nil, fun i x hx => by
    obtain ⟨h1, cs, h2, h3⟩ := h.rows i x hx
    exact ⟨hs _ h1, cs, τ.sub hs h2, h3⟩⟩
theorem Sl.len_le (h : Sl τ S w A c xs) : xs.length ≤ 9223372036854775807 := by
  have h1 := h.cap
  have h2 := h.max
  simp only [maxLen] at h2
  omega
theorem Sl.any (h : Sl τ S w A c xs) : Sl τ (fun _ => True) w A c xs := h.sub fun _ _ => trivial
theorem Sl.some_ (h : Sl τ S w A c xs) {i : Nat} {x : α} (hx : xs[i]? = some x) : A = some (adr A) := by
  cases hA : A with
  | none =>
    have h1 := h.nil hA
    have h2 := h.cap
    have h3 : i < xs.length := (List.getElem?_eq_some_iff.1 hx).1
    omega
  | some a => rfl
theorem Sl.lt (h : Sl τ S w A c xs) {i : Nat} {x : α} (hx : xs[i]? = some x) : (adr A).block < w.heap.size := by
  obtain ⟨_, cs, h2, h3⟩ := h.rows i x hx
  have hl := τ.len h2
  have hp := τ.pos
  have h0 : cs[0]? = some (cs[0]'(by omega)) := List.getElem?_eq_getElem _
  have := World.block_lt_of_cell? w _ (h3 0 _ h0)
  rwa [block_of_add] at this
/-- the cells of all elements, one behind the other -/
theorem Sl.cells (h : Sl τ S w A c xs) : ∃ css : List (List Value), css.length = xs.length ∧ (∀ (i : Nat) (x : α), xs[i]? = some x → ∃ cs, css[i]? = some cs ∧ τ.R S w x cs) ∧
    css.flatten.length = xs.length * τ.k ∧ (∀ u ∈ css.flatten, u.oneCell' = true) ∧ ∀ j u, css.flatten[j]? = some u → w.cell? ((adr A).add j) = some u := by
  have key : ∀ (ys : List α) (o : Nat), (∀ (i : Nat) (x : α), ys[i]? = some x → ∃ cs, τ.R S w x cs ∧ ∀ j u, cs[j]? = some u → w.cell? ((adr A).add ((o + i) * τ.k + j)) = some u) →
      ∃ css : List (List Value), css.length = ys.length ∧ (∀ (i : Nat) (x : α), ys[i]? = some x → ∃ cs, css[i]? = some cs ∧ τ.R S w x cs) ∧
        css.flatten.length = ys.length * τ.k ∧ (∀ u ∈ css.flatten, u.oneCell' = true) ∧ ∀ j u, css.flatten[j]? = some u → w.cell? ((adr A).add (o * τ.k + j)) = some u := by
    intro ys
    induction ys with
    | nil => intro o _; exact ⟨[], rfl, fun i x hx => by simp at hx, by simp, by simp, fun j u hu => by simp at hu⟩
    | cons y ys ih =>
      intro o hy
      obtain ⟨cs, hR, hc⟩ := hy 0 y rfl
      obtain ⟨css, h1, h2, h3, h4, h5⟩ := ih (o + 1) (fun i x hx => by
        obtain ⟨cs, hR, hc⟩ := hy (i + 1) x (by simpa using hx)
        exact ⟨cs, hR, fun j u hu => by have := hc j u hu; rwa [show o + 1 + i = o + (i + 1) from by omega]⟩)
      have hl := τ.len hR
      refine ⟨cs :: css, by simp [h1], ?_, ?_, ?_, ?_⟩
      · intro i x hx
        cases i with
        | zero => simp at hx; subst hx; exact ⟨cs, rfl, hR⟩
        | succ i => obtain ⟨cs', h6, h7⟩ := h2 i x (by simpa using hx); exact ⟨cs', by simpa using h6, h7⟩
      · simp only [List.flatten_cons, List.length_append, hl, h3, List.length_cons, Nat.add_mul, Nat.one_mul]; omega
      · intro u hu
        rw [List.flatten_cons] at hu
        rcases List.mem_append.1 hu with h | h
        · exact τ.one hR u h
        · exact h4 u h
      · intro j u hu
        rw [List.flatten_cons] at hu
        by_cases hj : j < cs.length
        · rw [List.getElem?_append_left hj] at hu
          have := hc j u hu
          simpa using this
        · rw [List.getElem?_append_right (by omega)] at hu
          have := h5 _ u hu
          rw [show (o + 1) * τ.k + (j - cs.length) = o * τ.k + j from by rw [Nat.add_mul, Nat.one_mul]; omega] at this
          exact this
  obtain ⟨css, h1, h2, h3, h4, h5⟩ := key xs 0 (fun i x hx => by
    obtain ⟨_, cs, hR, hc⟩ := h.rows i x hx
    exact ⟨cs, hR, fun j u hu => by have := hc j u hu; simpa using this⟩)
  exact ⟨css, h1, h2, h3, h4, fun j u hu => by have := h5 j u hu; simpa using this⟩
end

/-- the slice's row is the call's own, from block lo on; what lies behind it is of S -/
def Own {α : Type} (τ : Ty α) (e : TypeId) (lo : Nat) (S : Nat → Prop) (w : World) (A : Option Addr) (c : Nat) (xs : List α) : Prop :=
  ∃ css : List (List Value), css.length = xs.length ∧ (∀ (i : Nat) (x : α), xs[i]? = some x → ∃ cs, css[i]? = some cs ∧ τ.R S w x cs) ∧ w.ownsRow lo e τ.k (.slice A xs.length c) xs.length css.flatten

def blk (A : Option Addr) : Option Nat := A.map (·.block)

section
variable {α : Type} {τ : Ty α} {e : TypeId} {lo lo' : Nat} {S S' : Nat → Prop} {w w' : World} {A : Option Addr} {c g : Nat} {xs : List α}
theorem Own.none_ (τ : Ty α) (e : TypeId) (lo : Nat) (S : Nat → Prop) (w : World) : Own τ e lo S w none 0 [] :=
  ⟨[], rfl, fun i x h => by simp at h, World.ownsRow_nil w lo e τ.k⟩
theorem flat_at {k : Nat} : ∀ (css : List (List Value)) (_ : ∀ cs ∈ css, cs.length = k) (i : Nat) (cs : List Value) (_ : css[i]? = some cs) (j : Nat) (u : Value), cs[j]? = some u → css.flatten[i * k + j]? = some u
  | [], _, i, cs, h, _, _, _ => by simp at h
  | c0 :: css, hk, i, cs, h, j, u, hu => by
    have h0 : c0.length = k := hk c0 (by simp)
    cases i with
    | zero =>
      simp at h; subst h
      have : j < c0.length := (List.getElem?_eq_some_iff.1 hu).1
      simp only [List.flatten_cons, Nat.zero_mul, Nat.zero_add]
      rw [List.getElem?_append_left this]; exact hu
    | succ i =>
      simp only [List.flatten_cons]
      rw [List.getElem?_append_right (by rw [h0, Nat.add_mul, Nat.one_mul]; omega), h0, show (i + 1) * k + j - k = i * k + j from by rw [Nat.add_mul, Nat.one_mul]; omega]
      exact flat_at css (fun cs hcs => hk cs (by simp [hcs])) i cs (by simpa using h) j u hu
theorem css_len {css : List (List Value)} (h1 : css.length = xs.length) (h2 : ∀ (i : Nat) (x : α), xs[i]? = some x → ∃ cs, css[i]? = some cs ∧ τ.R S w x cs) : ∀ cs ∈ css, cs.length = τ.k := by
  intro cs hcs
  obtain ⟨i, hi, rfl⟩ := List.getElem_of_mem hcs
  obtain ⟨cs', h3, h4⟩ := h2 i (xs[i]'(by omega)) (List.getElem?_eq_getElem _)
  rw [List.getElem?_eq_getElem hi] at h3
  cases h3
  exact τ.len h4
theorem Own.sl (h : Own τ e lo S w A c xs) (h1 : ∀ b, lo ≤ b → S' b) (h2 : ∀ b, S b → S' b) : Sl τ S' w A c xs := by
  obtain ⟨css, hl, hR, hown⟩ := h
  have hk := css_len hl hR
  rcases hown.2 with ⟨hv, hn⟩ | ⟨g, cap, cur, hv, hg, hh, hnc, hcm, hcs, ht⟩
  · injection hv with hA hn' hc
    have hx : xs = [] := List.eq_nil_of_length_eq_zero hn
    subst hx hA hc
    exact Sl.none_ τ S' w
  · injection hv with hA hn' hc
    subst hA hc
    refine ⟨hnc, hcm, (fun h => by cases h), fun i x hx => ?_⟩
    obtain ⟨cs, h3, h4⟩ := hR i x hx
    exact ⟨h1 _ hg, cs, τ.sub h2 h4, fun j u hu => hown.cells (g := g) rfl _ _ (flat_at css hk i cs h3 j u hu)⟩
theorem Own.blk_lt (h : Own τ e lo S w A c xs) : ∀ g, blk A = some g → lo ≤ g ∧ g < w.heap.size := by
  obtain ⟨css, hl, hR, hown⟩ := h
  intro g hg
  refine hown.lt g ?_
  cases A with
  | none => simp [blk] at hg
  | some a => simpa [blk, Value.ownBlock] using hg
theorem Own.ext (h : Own τ e lo S w A c xs) (x : Ext w w') : Own τ e lo S w' A c xs := by
  obtain ⟨css, hl, hR, hown⟩ := h
  refine ⟨css, hl, fun i y hy => ?_, hown.kept (row := none) ⟨x.os, x.tape, x.output, x.size, fun k hk _ => x.block k hk⟩ (by cases hv : (Value.slice A xs.length c).ownBlock <;> simp)⟩
  obtain ⟨cs, h1, h2⟩ := hR i y hy
  exact ⟨cs, h1, τ.ext x h2⟩
theorem Own.mod (h : Own τ e lo S w A c xs) (m : Mod g w w') (hS : ¬ S g) (hg : blk A ≠ some g) : Own τ e lo S w' A c xs := by
  obtain ⟨css, hl, hR, hown⟩ := h
  refine ⟨css, hl, fun i y hy => ?_, hown.kept (row := some g) ⟨m.os, m.tape, m.output, m.size, fun k hk hn => m.block k hk (fun e => hn (by rw [e]))⟩ (.inr ?_)⟩
  · obtain ⟨cs, h1, h2⟩ := hR i y hy
    exact ⟨cs, h1, τ.mod m hS h2⟩
  · intro he
    apply hg
    cases A with
    | none => simp [Value.ownBlock] at he
    | some a => simpa [blk, Value.ownBlock] using he
theorem Own.low (h : Own τ e lo S w A c xs) (hlo : lo' ≤ lo) (hS : ∀ b, S b → S' b) : Own τ e lo' S' w A c xs := by
  obtain ⟨css, hl, hR, hown⟩ := h
  refine ⟨css, hl, fun i y hy => ?_, hown.1, ?_⟩
  · obtain ⟨cs, h1, h2⟩ := hR i y hy
    exact ⟨cs, h1, τ.sub hS h2⟩
  · rcases hown.2 with h2 | ⟨g, cap, cur, hv, hg, rest⟩
    · exact .inl h2
    · exact .inr ⟨g, cap, cur, hv, by omega, rest⟩
end

/-- blocks that are new since w -/
def Fr (w : World) : Nat → Prop := fun b => w.heap.size ≤ b
def Any : Nat → Prop := fun _ => True
theorem Fr.not {w : World} {g : Nat} (h : g < w.heap.size) : ¬ Fr w g := by unfold Fr; omega
theorem Fr.sub {a b : World} (h : a.heap.size ≤ b.heap.size) : ∀ x, Fr b x → Fr a x := fun x hx => Nat.le_trans h hx
theorem Any.sub {S : Nat → Prop} : ∀ x, S x → Any x := fun _ _ => trivial
theorem get_some {α : Type} {xs : List α} {i : Nat} (h : i < xs.length) : ∃ x, xs[i]? = some x := ⟨xs[i], List.getElem?_eq_getElem h⟩
theorem lt_of_get {α : Type} {xs : List α} {i : Nat} {x : α} (h : xs[i]? = some x) : i < xs.length := (List.getElem?_eq_some_iff.1 h).1

theorem not_dec_t {p : Prop} [Decidable p] (h : (!decide p) = true) : ¬ p := by simpa using h
theorem not_dec_f {p : Prop} [Decidable p] (h : (!decide p) = false) : p := by simpa using h

/-! ### the frame: what slots hold -/

def look : List (Nat × Value) → Nat → Option Value
  | [], _ => none
  | p :: l, i => bif Nat.beq p.1 i then some p.2 else look l i

def evl (l : List (Nat × Value)) : Operand → Option Value
  | .tmp t => look l t
  | .const v => some v
  | .global g => some (.pointer (some ⟨g, 0, none⟩))
  | .func f => some (.func (.func f) #[] #[])

def evls (l : List (Nat × Value)) : List Operand → Option (List Value)
  | [] => some []
  | x :: xs => match evl l x, evls l xs with
    | some v, some vs => some (v :: vs)
    | _, _ => none

def evps (l : List (Nat × Value)) : List (Nat × Operand) → Option (List (Nat × Value))
  | [] => some []
  | x :: xs => match evl l x.2, evps l xs with
    | some v, some vs => some ((x.1, v) :: vs)
    | _, _ => none
theorem look_eq {l : List (Nat × Value)} {i : Nat} {u v : Value} (h : look l i = some u) (e : u = v) : look l i = some v := by rw [← e]; exact h

/-- a frame of n slots, no deferred call; the slots of l hold what l says -/
structure Has (n : Nat) (l : List (Nat × Value)) (a : Act) : Prop where
  defers : a.defers = []
  size : a.tmps.size = n
  get : ∀ i v, look l i = some v → a.tmps.getD i undef = v

section
variable {n : Nat} {l l' : List (Nat × Value)} {a : Act}
theorem Has.eval (h : Has n l a) {x : Operand} {v : Value} (hx : evl l x = some v) : a.eval x = v := by
  cases x with
  | tmp t => exact h.get t v hx
  | const c => injection hx
  | global g => injection hx
  | func f => injection hx
theorem Has.evals (h : Has n l a) : ∀ {xs : List Operand} {vs : List Value}, evls l xs = some vs → xs.map a.eval = vs
  | [], vs, hx => by simp [evls] at hx; simp [hx]
  | x :: xs, vs, hx => by
    unfold evls at hx
    cases h1 : evl l x with
    | none => simp [h1] at hx
    | some v =>
      cases h2 : evls l xs with
      | none => simp [h1, h2] at hx
      | some us =>
        simp [h1, h2] at hx
        subst hx
        simp [h.eval h1, Has.evals h h2]
theorem Has.evps (h : Has n l a) : ∀ {xs : List (Nat × Operand)} {vs : List (Nat × Value)}, Proofs.Ytaolldhkmnfciaa.evps l xs = some vs → xs.map (fun p => (p.1, a.eval p.2)) = vs
  | [], vs, hx => by simp [Proofs.Ytaolldhkmnfciaa.evps] at hx; simp [hx]
  | x :: xs, vs, hx => by
    unfold Proofs.Ytaolldhkmnfciaa.evps at hx
    cases h1 : evl l x.2 with
    | none => simp [h1] at hx
    | some v =>
      cases h2 : Proofs.Ytaolldhkmnfciaa.evps l xs with
      | none => simp [h1, h2] at hx
      | some us =>
        simp [h1, h2] at hx
        subst hx
        simp [h.eval h1, Has.evps h h2]
theorem Has.put (h : Has n l a) {d : Nat} (hd : Nat.blt d n = true) (v : Value) : Has n ((d, v) :: l) (a.put (some d) v) := by
  have hd' : d < n := by simpa [Nat.blt_eq] using hd
  have hs := h.size
  refine ⟨h.defers, by simp [Act.put, hs], fun i u hu => ?_⟩
  unfold look at hu
  cases hb : Nat.beq d i with
  | true =>
    have : d = i := Nat.eq_of_beq_eq_true hb
    subst this
    simp [hb] at hu
    subst hu
    simp [Act.put, hs, hd']
  | false =>
    have hne : d ≠ i := Nat.ne_of_beq_eq_false hb
    simp [hb] at hu
    have := h.get i u hu
    simp only [Array.getD_eq_getD_getElem?] at this
    simpa [Act.put, Array.getElem?_setIfInBounds_ne hne] using this
def Subs (l : List (Nat × Value)) : List (Nat × Value) → Prop
  | [] => True
  | p :: r => look l p.1 = some p.2 ∧ Subs l r
theorem Subs.look : ∀ {r : List (Nat × Value)}, Subs l r → ∀ i v, look r i = some v → look l i = some v
  | [], _, i, v, h => by simp [Proofs.Ytaolldhkmnfciaa.look] at h
  | p :: r, hs, i, v, h => by
    unfold Proofs.Ytaolldhkmnfciaa.look at h
    cases hb : Nat.beq p.1 i with
    | true =>
      have : p.1 = i := Nat.eq_of_beq_eq_true hb
      simp [hb] at h
      subst this h
      exact hs.1
    | false => simp [hb] at h; exact Subs.look hs.2 i v h
theorem Has.subs (h : Has n l a) (hs : Subs l l') : Has n l' a := ⟨h.defers, h.size, fun i v hv => h.get i v (hs.look i v hv)⟩
theorem Has.set (h : Has n l a) {t : Nat} {v v' : Value} (hl : look l t = some v) (e : v = v') : Has n ((t, v') :: l) a := by
  subst e
  refine ⟨h.defers, h.size, fun i u hu => ?_⟩
  unfold look at hu
  cases hb : Nat.beq t i with
  | true =>
    have : t = i := Nat.eq_of_beq_eq_true hb
    subst this
    simp [hb] at hu
    subst hu
    exact h.get t v hl
  | false => simp [hb] at hu; exact h.get i u hu
def enum : Nat → List Value → List (Nat × Value)
  | _, [] => []
  | i, v :: vs => (i, v) :: enum (i + 1) vs
theorem look_enum : ∀ (vs : List Value) (k i : Nat) (v : Value), look (enum k vs) i = some v → k ≤ i ∧ vs[i - k]? = some v
  | [], k, i, v, h => by simp [enum, look] at h
  | u :: vs, k, i, v, h => by
    simp only [enum, look] at h
    cases hb : Nat.beq k i with
    | true =>
      have : k = i := Nat.eq_of_beq_eq_true hb
      subst this
      simp [hb] at h
      subst h
      simp
    | false =>
      have hne : k ≠ i := Nat.ne_of_beq_eq_false hb
      simp [hb] at h
      obtain ⟨h1, h2⟩ := look_enum vs (k + 1) i v h
      refine ⟨by omega, ?_⟩
      rw [show i - k = (i - (k + 1)) + 1 from by omega]
      simpa using h2
end

/-! ### judgements -/

def WP (P : Program) (n : Nat) (c : Code) (l : List (Nat × Value)) (w : World) (Q : Exit → Act → World → Prop) : Prop := ∀ a, Has n l a → c.wp P Q a w

/-- what stands behind an exit -/
def Pst (n : Nat) (Q : Exit → Act → World → Prop) (e : Exit) (l : List (Nat × Value)) (w : World) : Prop := ∀ a, Has n l a → Q e a w

def wpK (P : Program) (ops : Array Oper) (Q : Exit → Act → World → Prop) (K : Act → World → Prop) : List Oper → Act → World → Prop
  | [], a, w => K a w
  | o :: rest, a, w => if Region.wanted o (yielded ops a.tmps) then o.wp P a w (wpK P ops Q K rest) Q ∨ (o.asks P a w ∧ LetsOut Q) else wpK P ops Q K rest (a.put o.dst undef) w

theorem wpK_list {P : Program} {ops : Array Oper} {Q : Exit → Act → World → Prop} : ∀ os, wpK P ops Q (Q .normal) os = wpList P ops Q os
  | [] => rfl
  | o :: os => by funext a w; simp only [wpK, wpList, wpK_list os]

def WL (P : Program) (n : Nat) (ops : Array Oper) (Q : Exit → Act → World → Prop) (K : Act → World → Prop) (os : List Oper) (l : List (Nat × Value)) (w : World) : Prop :=
  ∀ a, Has n l a → wpK P ops Q K os a w

/-- a call that returns, with a value and in a world of which R is known -/
def Rets (P : Program) (f : FuncId) (args : Array Value) (w : World) (R : Value → World → Prop) : Prop := Calls P f args w fun e w' => ∃ v, e = .returned v ∧ R v w'

theorem Rets.mono {P : Program} {f : FuncId} {args : Array Value} {w : World} {R R' : Value → World → Prop} (h : Rets P f args w R) (hr : ∀ v w', R v w' → R' v w') : Rets P f args w R' :=
  Calls.mono h fun _ w' ⟨v, he, hv⟩ => ⟨v, he, hr v w' hv⟩

def RR (R : Value → World → Prop) : Ending → World → Prop := fun e w' => ∃ v, e = .returned v ∧ R v w'

section
variable {P : Program} {n : Nat} {l l' : List (Nat × Value)} {w w' : World} {Q : Exit → Act → World → Prop} {K : Act → World → Prop}

theorem WP.enter {f : FuncId} {fn : Func} {c : Code} {vs : List Value} {R : Value → World → Prop} (hf : P.funcs[f]? = some fn) (hb : fn.body = some c) (hn : fn.ntmps = n) (hle : Nat.ble vs.length n = true)
    (h : WP P n c (enum 0 vs) w (bodyPost P fn (RR R))) : Rets P f vs.toArray w R := by
  refine calls_of_wp hf hb (h _ ⟨rfl, ?_, fun i v hv => ?_⟩)
  · have := Nat.le_of_ble_eq_true hle
    simp [hn]; omega
  · obtain ⟨_, h2⟩ := look_enum vs 0 i v hv
    have hi : i < vs.length := (List.getElem?_eq_some_iff.1 h2).1
    simp only [Nat.sub_zero] at h2
    have h3 := (List.getElem?_eq_some_iff.1 h2).2
    simp [Array.getElem?_append, hi, h3]

theorem WP.keep (hs : Subs l l') {c : Code} (h : WP P n c l' w Q) : WP P n c l w Q := fun a ha => h a (ha.subs hs)

theorem WP.region {ol : List Oper} {id : Nat} {y : Code} (h : WL P n ol.toArray (Exit.then (fun a w => y.wp P Q a w) Q) (fun a w => y.wp P Q a w) ol l w) : WP P n (.seq (.region id ol.toArray false) y) l w Q :=
  fun a ha => wp_seq (wp_region_lit (by rw [← wpK_list]; exact h a ha))
theorem WP.region_end {ol : List Oper} {id : Nat} (h : WL P n ol.toArray Q (Q .normal) ol l w) : WP P n (.region id ol.toArray false) l w Q :=
  fun a ha => wp_region_lit (by rw [← wpK_list]; exact h a ha)
theorem WL.done {ops : Array Oper} {y : Code} {Q' : Exit → Act → World → Prop} (h : WP P n y l w Q) : WL P n ops Q' (fun a w => y.wp P Q a w) [] l w := fun a ha => h a ha
theorem WL.done_end {ops : Array Oper} {Q' : Exit → Act → World → Prop} (h : Pst n Q .normal l w) : WL P n ops Q' (Q .normal) [] l w := fun a ha => h a ha
theorem WL.nil {ops : Array Oper} {Q' : Exit → Act → World → Prop} (h : ∀ a, Has n l a → K a w) : WL P n ops Q' K [] l w := fun a ha => h a ha
theorem WL.keep {ops : Array Oper} {os : List Oper} (hs : Subs l l') (h : WL P n ops Q K os l' w) : WL P n ops Q K os l w := fun a ha => h a (ha.subs hs)

theorem WP.cond {c : Operand} {x y z : Code} {b : Bool} (hc : evl l c = some (.bool b)) (h1 : b = true → WP P n x l w (Exit.then (fun a w => z.wp P Q a w) Q)) (h2 : b = false → WP P n y l w (Exit.then (fun a w => z.wp P Q a w) Q)) :
    WP P n (.seq (.cond c x y) z) l w Q := fun a ha => wp_seq (wp_cond_split (ha.eval hc) (fun e => h1 e a ha) (fun e => h2 e a ha))
theorem WP.cond_end {c : Operand} {x y : Code} {b : Bool} (hc : evl l c = some (.bool b)) (h1 : b = true → WP P n x l w Q) (h2 : b = false → WP P n y l w Q) :
    WP P n (.cond c x y) l w Q := fun a ha => wp_cond_split (ha.eval hc) (fun e => h1 e a ha) (fun e => h2 e a ha)
theorem WP.seq {x y : Code} (h : WP P n x l w (Exit.then (fun a w => y.wp P Q a w) Q)) : WP P n (.seq x y) l w Q := fun a ha => wp_seq (h a ha)
theorem WP.skip (h : Pst n Q .normal l w) : WP P n .skip l w Q := fun a ha => wp_skip (h a ha)
theorem WP.ret (h : Pst n Q .ret l w) : WP P n .ret l w Q := fun a ha => wp_ret (h a ha)
theorem WP.exit {id : Nat} (h : Pst n Q (.exit id) l w) : WP P n (.exit id) l w Q := fun a ha => wp_exit (h a ha)
theorem WP.block {id : Nat} {c : Code} (h : WP P n c l w (Exit.inBlock id Q)) : WP P n (.block id c) l w Q := fun a ha => wp_block (h a ha)

/-- what a round hands on: the relation of slots and world, at a smaller number -/
def Again (n : Nat) (J : Nat → List (Nat × Value) → World → Prop) (m : Nat) (a : Act) (w : World) : Prop := ∃ m' l, m' < m ∧ Has n l a ∧ J m' l w

theorem WP.loop {c : Code} (J : Nat → List (Nat × Value) → World → Prop) (m0 : Nat) (l0 : List (Nat × Value)) (hs : Subs l l0) (h0 : J m0 l0 w)
    (hr : ∀ m l w', J m l w' → WP P n c l w' (Exit.then (Again n J m) Q)) : WP P n (.loop c) l w Q := fun a ha => by
  refine wp_loop_ghost (fun m a w => ∃ l, Has n l a ∧ J m l w) m0 ⟨l0, ha.subs hs, h0⟩ ?_
  rintro m a w ⟨l, h1, h2⟩
  refine wp_mono (hr m l w h2 a h1) ?_
  intro e a' w' hq
  cases e with
  | normal => obtain ⟨m', l', h3, h4, h5⟩ := hq; exact ⟨m', h3, l', h4, h5⟩
  | _ => exact hq

theorem Pst.again {J : Nat → List (Nat × Value) → World → Prop} {m : Nat} (m' : Nat) (l' : List (Nat × Value)) (hs : Subs l l') (hm : m' < m) (hJ : J m' l' w) : Pst n (Exit.then (Again n J m) Q) .normal l w :=
  fun a ha => ⟨m', l', hm, ha.subs hs, hJ⟩
theorem Pst.norm {y : Code} (h : WP P n y l w Q) : Pst n (Exit.then (fun a w => y.wp P Q a w) Q) .normal l w := fun a ha => h a ha
theorem Pst.then_exit {i : Nat} (h : Pst n Q (.exit i) l w) : Pst n (Exit.then K Q) (.exit i) l w := fun a ha => h a ha
theorem Pst.then_ret (h : Pst n Q .ret l w) : Pst n (Exit.then K Q) .ret l w := fun a ha => h a ha
theorem Pst.then_goto {i : Nat} (h : Pst n Q (.goto i) l w) : Pst n (Exit.then K Q) (.goto i) l w := fun a ha => h a ha
theorem Pst.blk_ret {id : Nat} (h : Pst n Q .ret l w) : Pst n (Exit.inBlock id Q) .ret l w := fun a ha => h a ha
theorem Pst.blk_goto {id i : Nat} (h : Pst n Q (.goto i) l w) : Pst n (Exit.inBlock id Q) (.goto i) l w := fun a ha => h a ha
theorem Pst.blk_norm {id : Nat} (h : Pst n Q .normal l w) : Pst n (Exit.inBlock id Q) .normal l w := fun a ha => h a ha
theorem Pst.blk_eq {id : Nat} (h : Pst n Q .normal l w) : Pst n (Exit.inBlock id Q) (.exit id) l w := fun a ha => by
  show (if id = id then _ else _); rw [if_pos rfl]; exact h a ha
theorem Pst.blk_ne {id i : Nat} (hne : Nat.beq i id = false) (h : Pst n Q (.exit i) l w) : Pst n (Exit.inBlock id Q) (.exit i) l w := fun a ha => by
  show (if i = id then _ else _); rw [if_neg (Nat.ne_of_beq_eq_false hne)]; exact h a ha

/-- the function's end -/
def resl (l : List (Nat × Value)) : List ResultVar → Option (List Value)
  | [] => some []
  | .tmp t :: rs => match look l t, resl l rs with
    | some v, some vs => some (v :: vs)
    | _, _ => none
  | .cell _ _ :: _ => none
def wrapRes : List Value → Value
  | [v] => v
  | vs => .tuple vs.toArray
theorem run_resl (f : ResultVar → Sem Value) (a : Act) (hf : ∀ t, f (.tmp t) = pure (a.tmps.getD t undef)) (ha : Has n l a) : ∀ (rs : List ResultVar) (vs : List Value), resl l rs = some vs → (rs.mapM f).run P w = .ok vs w
  | [], vs, h => by simp [resl] at h; subst h; rfl
  | .tmp t :: rs, vs, h => by
    unfold resl at h
    cases h1 : look l t with
    | none => simp [h1] at h
    | some v =>
      cases h2 : resl l rs with
      | none => simp [h1, h2] at h
      | some us =>
        simp [h1, h2] at h
        subst h
        have := run_resl f a hf ha rs us h2
        have hg := ha.get t v h1
        simp only [List.mapM_cons, Sem.run_bind, Sem.run_pure, Result.andThen_ok, hf, hg, this]
  | .cell _ _ :: _, vs, h => by simp [resl] at h
theorem Pst.body_ret {fn : Func} {R : Value → World → Prop} {rs : List ResultVar} {vs : List Value} {v : Value} (hr : fn.results = rs.toArray) (hv : resl l rs = some vs) (hw : wrapRes vs = v) (hR : R v w) : Pst n (bodyPost P fn (RR R)) .ret l w := by
  intro a ha
  refine ⟨ha.defers, v, ?_, v, rfl, hR⟩
  unfold results
  rw [hr, Sem.run_bind, List.mapM_toArray, Sem.run_map, run_resl (P := P) (w := w) _ a (fun _ => rfl) ha rs vs hv]
  simp only [Result.andThen_ok, Sem.run_pure]
  subst hw
  match vs with
  | [] => simp [wrapRes]
  | [v] => simp [wrapRes]
  | u :: v :: vs => simp [wrapRes]
theorem Pst.body_norm {fn : Func} {R : Value → World → Prop} (h : Pst n (bodyPost P fn (RR R)) .ret l w) : Pst n (bodyPost P fn (RR R)) .normal l w := h
end
end Go.Proofs.Ytaolldhkmnfciaa
