/- Rules for walking a function's code over a symbolic frame: what the slots hold is a list, what the memory holds is said by facts that stay true in later worlds. No program in sight but as a variable. -/
import Derived.WalkKit
import Derived.WalkSpells
import Derived.WalkLawsBesides
import Derived.Deep.Quiet
import Derived.Deep.LoopGhost
import Derived.Sort.LoopGhostIn
import Derived.RangeFuncLeaves
import Derived.OrdersIn
import Derived.Deep.AppendLies
set_option linter.all false
namespace Go.Proofs.YtlnjmkmhmbijmaaGreat
open Go.RowKit

def InI64 (x : Int) : Prop := -9223372036854775808 ≤ x ∧ x ≤ 9223372036854775807
def InU32 (x : Int) : Prop := 0 ≤ x ∧ x ≤ 4294967295

/-! ### worlds -/

/-- w' has all blocks of w, as they were -/
structure Ext (w w' : World) : Prop where
  os : w'.os = w.os
  tape : w'.tape = w.tape
  output : w'.output = w.output
  size : w.heap.size ≤ w'.heap.size
  block : ∀ k, k < w.heap.size → w'.heap[k]? = w.heap[k]?
  drawn : w.drawn ≤ w'.drawn

/-- w' has all blocks of w but g as they were -/
structure Mod (g : Nat) (w w' : World) : Prop where
  os : w'.os = w.os
  tape : w'.tape = w.tape
  output : w'.output = w.output
  size : w.heap.size ≤ w'.heap.size
  block : ∀ k, k < w.heap.size → k ≠ g → w'.heap[k]? = w.heap[k]?
  drawn : w.drawn ≤ w'.drawn

/-- w' has all blocks of w but the row's as they were -/
structure Grw (w w' : World) (row : Option Nat) : Prop where
  os : w'.os = w.os
  tape : w'.tape = w.tape
  output : w'.output = w.output
  size : w.heap.size ≤ w'.heap.size
  block : ∀ k, k < w.heap.size → some k ≠ row → w'.heap[k]? = w.heap[k]?
  drawn : w.drawn ≤ w'.drawn
theorem ask_drawn {α : Type} : ∀ (x : Ask α) (w : World), w.drawn ≤ (w.ask x).2.drawn
  | .done a, w => Nat.le_refl _
  | .ask what range k, w => by
    unfold World.ask
    simp only
    split
    · exact ask_drawn (k 0) w
    · exact Nat.le_trans (Nat.le_succ _) (ask_drawn (k _) { w with drawn := w.drawn + 1 })
theorem sys_drawn (w : World) (c : Sys) : w.drawn ≤ (w.sys c).2.drawn := by
  have h := ask_drawn (Kernel.perform c w.os) w
  unfold World.sys
  split
  · exact Nat.le_refl _
  · rename_i e; rw [e] at h; exact h
theorem far_drawn {p : Program} {w w' : World} {a : Addr} {v : Value} {at' : Bool} {l : List Addr} (h : w.farStore p a v at' = .ok (w', l)) : w'.drawn = w.drawn := by
  unfold World.farStore at h
  split at h
  · split at h
    · rename_i r hr
      cases h
      unfold World.viewStore at hr
      simp only [bind, Except.bind, pure, Except.pure, throw, throwThe, MonadExceptOf.throw] at hr
      repeat' (split at hr)
      all_goals first | (cases hr; rfl) | cases hr
    · cases h
  · cases h
theorem run_drawn {α : Type} {P : Program} : ∀ (m : Sem α) (w : World) (a : α) (w' : World), m.run P w = .ok a w' → w.drawn ≤ w'.drawn := by
  intro m
  induction m with
  | pure a => intro w b w' h; cases h; exact Nat.le_refl _
  | load m a k ih =>
    intro w b w' h; unfold Sem.run at h
    split at h
    · exact ih _ _ _ _ h
    · split at h
      · exact ih _ _ _ _ h
      · cases h
  | store m a v k ih =>
    intro w b w' h
    cases v <;> simp only [Sem.run] at h
    all_goals first
      | (cases h; done)
      | (split at h
         · split at h
           · cases h
           · have := ih _ _ _ h; exact this
         · split at h
           · rename_i hf; have := ih _ _ _ h; rw [far_drawn hf] at this; exact this
           · cases h)
  | new o k ih => intro w b w' h; unfold Sem.run at h; have := ih _ _ _ _ h; exact this
  | shape r k ih => intro w b w' h; unfold Sem.run at h; exact ih _ _ _ _ h
  | freeze a n k ih =>
    intro w b w' h; unfold Sem.run at h
    have := ih _ _ _ h
    unfold World.freeze at this
    split at this <;> exact this
  | frozen a k ih => intro w b w' h; unfold Sem.run at h; exact ih _ _ _ _ h
  | getObj r k ih =>
    intro w b w' h; unfold Sem.run at h
    split at h
    · cases h
    · exact ih _ _ _ _ h
    · cases h
  | setObj r o k ih =>
    intro w b w' h; unfold Sem.run at h
    split at h
    · cases h
    · have := ih _ _ _ h; exact this
    · cases h
  | choose q k ih =>
    intro w b w' h; unfold Sem.run at h
    split at h
    · exact ih _ _ _ _ h
    · have := ih _ _ _ _ h; exact Nat.le_trans (Nat.le_succ _) this
  | sys c k ih => intro w b w' h; unfold Sem.run at h; exact Nat.le_trans (sys_drawn w c) (ih _ _ _ _ h)
  | program k ih => intro w b w' h; unfold Sem.run at h; exact ih _ _ _ _ h
  | mark m k ih => intro w b w' h; unfold Sem.run at h; exact ih _ _ _ h
  | halt e => intro w b w' h; cases h

section
variable {a b c w w' : World} {g : Nat}
theorem Grw.of {w w' : World} {row : Option Nat} (h : w.grownBy w' row) (hd : w.drawn ≤ w'.drawn) : Grw w w' row := ⟨h.os, h.tape, h.output, h.size, fun k hk hn => h.block k hk hn, hd⟩
theorem Ext.refl (w : World) : Ext w w := ⟨rfl, rfl, rfl, Nat.le_refl _, fun _ _ => rfl, Nat.le_refl _⟩
theorem Ext.trans (h : Ext a b) (k : Ext b c) : Ext a c :=
  ⟨k.os.trans h.os, k.tape.trans h.tape, k.output.trans h.output, Nat.le_trans h.size k.size, fun i hi => (k.block i (Nat.lt_of_lt_of_le hi h.size)).trans (h.block i hi), Nat.le_trans h.drawn k.drawn⟩
theorem Ext.mod (h : Ext a b) (k : Mod g b c) (hg : a.heap.size ≤ g) : Ext a c :=
  ⟨k.os.trans h.os, k.tape.trans h.tape, k.output.trans h.output, Nat.le_trans h.size k.size, fun i hi => (k.block i (Nat.lt_of_lt_of_le hi h.size) (by omega)).trans (h.block i hi), Nat.le_trans h.drawn k.drawn⟩
theorem Ext.toMod (h : Ext a b) (g : Nat) : Mod g a b := ⟨h.os, h.tape, h.output, h.size, fun i hi _ => h.block i hi, h.drawn⟩
theorem Mod.ext (h : Mod g a b) (k : Ext b c) : Mod g a c :=
  ⟨k.os.trans h.os, k.tape.trans h.tape, k.output.trans h.output, Nat.le_trans h.size k.size, fun i hi hn => (k.block i (Nat.lt_of_lt_of_le hi h.size)).trans (h.block i hi hn), Nat.le_trans h.drawn k.drawn⟩
theorem Ext.thenMod (h : Ext a b) (k : Mod g b c) : Mod g a c :=
  ⟨k.os.trans h.os, k.tape.trans h.tape, k.output.trans h.output, Nat.le_trans h.size k.size, fun i hi hn => (k.block i (Nat.lt_of_lt_of_le hi h.size) hn).trans (h.block i hi), Nat.le_trans h.drawn k.drawn⟩
theorem Mod.trans (h : Mod g a b) (k : Mod g b c) : Mod g a c :=
  ⟨k.os.trans h.os, k.tape.trans h.tape, k.output.trans h.output, Nat.le_trans h.size k.size, fun i hi hn => (k.block i (Nat.lt_of_lt_of_le hi h.size) hn).trans (h.block i hi hn), Nat.le_trans h.drawn k.drawn⟩
theorem Mod.toExt (h : Mod g a b) (hg : a.heap.size ≤ g) : Ext a b := ⟨h.os, h.tape, h.output, h.size, fun i hi => h.block i hi (by omega), h.drawn⟩
theorem Ext.drew (h : Ext a b) : Ext a b.drew := ⟨h.os, h.tape, h.output, h.size, h.block, Nat.le_succ_of_le h.drawn⟩
theorem Ext.alloc (w : World) (o : Obj) : Ext w (w.alloc o) := ⟨rfl, rfl, rfl, by simp, fun k hk => Below.heap_alloc w o k hk, Nat.le_refl _⟩
theorem Mod.setCell (w : World) (p : Addr) (u : Value) : Mod p.block w (w.setCell p u) :=
  ⟨rfl, rfl, rfl, by simp [World.setCell], fun k _ hn => Below.heap_setCell w p u k hn, Nat.le_refl _⟩
theorem Mod.of_grown {row : Option Nat} (h : Grw w w' row) (hr : ∀ k, row = some k → k = g) : Mod g w w' :=
  ⟨h.os, h.tape, h.output, h.size, fun k hk hn => h.block k hk (fun e => hn (hr k e.symm)), h.drawn⟩
theorem Ext.of_grown {row : Option Nat} (h : Grw w w' row) (hr : ∀ k, row = some k → w.heap.size ≤ k) : Ext w w' :=
  ⟨h.os, h.tape, h.output, h.size, fun k hk => h.block k hk (fun e => by have := hr k e.symm; omega), h.drawn⟩
theorem Ext.below (h : Ext w w') : Below w.heap.size w w' := ⟨h.os, h.tape, h.output, h.size, h.block⟩
theorem Ext.cell {p : Addr} {v : Value} (h : Ext w w') (hc : w.cell? p = some v) : w'.cell? p = some v :=
  (World.cell?_of_block (w := w) (h.block p.block (World.block_lt_of_cell? w p hc))).trans hc
theorem Mod.cell {p : Addr} {v : Value} (h : Mod g w w') (hg : p.block ≠ g) (hc : w.cell? p = some v) : w'.cell? p = some v :=
  (World.cell?_of_block (w := w) (h.block p.block (World.block_lt_of_cell? w p hc) hg)).trans hc
end

/-! ### a block that is known whole -/
def Bx (w : World) (g : Nat) (t : TypeId) (cs : List Value) : Prop := w.heap[g]? = some (.cells cs.toArray t (0, 0))

section
variable {w w' : World} {g g' : Nat} {t : TypeId} {cs : List Value}
theorem Bx.lt (h : Bx w g t cs) : g < w.heap.size := by
  rcases Nat.lt_or_ge g w.heap.size with hlt | hge
  · exact hlt
  · unfold Bx at h; rw [Array.getElem?_eq_none hge] at h; cases h
theorem Bx.ext (h : Bx w g t cs) (e : Ext w w') : Bx w' g t cs := (e.block g h.lt).trans h
theorem Bx.mod (h : Bx w g t cs) (m : Mod g' w w') (hn : g ≠ g') : Bx w' g t cs := (m.block g h.lt hn).trans h
theorem Bx.cell (h : Bx w g t cs) (i : Nat) : w.cell? ⟨g, i, none⟩ = cs[i]? := by
  rw [cell_of_row w g i cs.toArray t (0, 0) h]; simp
theorem Bx.frozen (h : Bx w g t cs) (i : Nat) : w.frozen? ⟨g, i, none⟩ = false := by
  unfold Bx at h
  simp [World.frozen?, h]
theorem Bx.new (w : World) (t : TypeId) (cs : List Value) : Bx (w.alloc (.cells cs.toArray t)) w.heap.size t cs := heap_alloc_new w _
theorem Bx.set_ (h : Bx w g t cs) (i : Nat) (u : Value) : Bx (w.setCell ⟨g, i, none⟩ u) g t (cs.set i u) := by
  unfold Bx at h ⊢
  simp [World.setCell, Array.getElem?_modify, h]
end

/-! ### typed rows -/

/-- how an element lies in memory: so many cells, which say what it is; the blocks behind them are of S -/
structure Ty (α : Type) where
  k : Nat
  pos : 0 < k
  R : (S : Nat → Prop) → World → α → List Value → Prop
  len : ∀ {S w x cs}, R S w x cs → cs.length = k
  one : ∀ {S w x cs}, R S w x cs → ∀ u ∈ cs, u.oneCell' = true
  keep : ∀ {S : Nat → Prop} {w w' : World} {x cs}, (∀ g, S g → g < w.heap.size → w'.heap[g]? = w.heap[g]?) → R S w x cs → R S w' x cs
  sub : ∀ {S S' : Nat → Prop} {w x cs}, (∀ b, S b → S' b) → R S w x cs → R S' w x cs
  bd : ∀ {S : Nat → Prop} {w x cs}, R S w x cs → R (fun g => S g ∧ g < w.heap.size) w x cs

/-- an element whose cells say all -/
def Ty.flat {α : Type} (k : Nat) (enc : α → List Value) (pos : 0 < k) (hl : ∀ x, (enc x).length = k) (h1 : ∀ x, ∀ u ∈ enc x, u.oneCell' = true) : Ty α where
  k := k
  pos := pos
  R := fun _ _ x cs => cs = enc x
  len := fun h => by rw [h, hl]
  one := fun h => by rw [h]; exact h1 _
  keep := fun _ h => h
  sub := fun _ h => h
  bd := fun h => h
theorem Ty.ext {α : Type} (τ : Ty α) {S w w' x cs} (e : Ext w w') (h : τ.R S w x cs) : τ.R S w' x cs := τ.keep (fun g _ hg => e.block g hg) h
theorem Ty.mod {α : Type} (τ : Ty α) {S w w' g x cs} (m : Mod g w w') (hg : ¬ S g) (h : τ.R S w x cs) : τ.R S w' x cs :=
  τ.keep (fun b hb hlt => m.block b hlt (fun e => hg (e ▸ hb))) h
/-- an element that says all -/
class Flat {α : Type} (τ : Ty α) : Prop where
  h : ∀ {S S' : Nat → Prop} {w w' : World} {x : α} {cs : List Value}, τ.R S w x cs → τ.R S' w' x cs
instance {α : Type} {k : Nat} {enc : α → List Value} {pos : 0 < k} {hl : ∀ x, (enc x).length = k} {h1 : ∀ x, ∀ u ∈ enc x, u.oneCell' = true} : Flat (Ty.flat k enc pos hl h1) := ⟨fun h => h⟩

def adr (A : Option Addr) : Addr := A.getD ⟨0, 0, none⟩

/-- the slice value '.slice A xs.length c' reads as xs; its block, and those behind it, are of S -/
structure Sl {α : Type} (τ : Ty α) (S : Nat → Prop) (w : World) (A : Option Addr) (c : Nat) (xs : List α) : Prop where
  cap : xs.length ≤ c
  max : c ≤ maxLen
  nil : A = none → c = 0
  rows : ∀ (i : Nat) (x : α), xs[i]? = some x → S (adr A).block ∧ ∃ cs, τ.R S w x cs ∧ ∀ j u, cs[j]? = some u → w.cell? ((adr A).add (i * τ.k + j)) = some u

theorem block_of_add (a : Addr) (n : Nat) : (a.add n).block = a.block := by unfold Addr.add; split <;> rfl
theorem add_of_add (a : Addr) (i j : Nat) : (a.add i).add j = a.add (i + j) := by
  unfold Addr.add
  by_cases hi : i = 0 <;> by_cases hj : j = 0 <;> simp [hi, hj, Nat.add_assoc]

theorem add_of_add_lit (a : Addr) (n i j : Nat) : (a.add (n + i)).add j = a.add (n + (i + j)) := by rw [add_of_add, Nat.add_assoc]
section
variable {α : Type} {τ : Ty α} {S S' : Nat → Prop} {w w' : World} {A : Option Addr} {c g : Nat} {xs : List α}
theorem Sl.none_ (τ : Ty α) (S : Nat → Prop) (w : World) : Sl τ S w none 0 [] :=
  ⟨by simp, by simp [maxLen], fun _ => rfl, fun i x h => by simp at h⟩
theorem Sl.ext (h : Sl τ S w A c xs) (e : Ext w w') : Sl τ S w' A c xs :=
  ⟨h.cap, h.max, h.nil, fun i x hx => by
    obtain ⟨h1, cs, h2, h3⟩ := h.rows i x hx
    exact ⟨h1, cs, τ.ext e h2, fun j u hu => e.cell (h3 j u hu)⟩⟩
theorem Sl.mod (h : Sl τ S w A c xs) (m : Mod g w w') (hg : ¬ S g) : Sl τ S w' A c xs :=
  ⟨h.cap, h.max, h.nil, fun i x hx => by
    obtain ⟨h1, cs, h2, h3⟩ := h.rows i x hx
    exact ⟨h1, cs, τ.mod m hg h2, fun j u hu => m.cell (fun e => hg (by rw [block_of_add] at e; rw [← e]; exact h1)) (h3 j u hu)⟩⟩
theorem Sl.keep (h : Sl τ S w A c xs) (m : ∀ g, S g → g < w.heap.size → w'.heap[g]? = w.heap[g]?) : Sl τ S w' A c xs :=
  ⟨h.cap, h.max, h.nil, fun i x hx => by
    obtain ⟨h1, cs, h2, h3⟩ := h.rows i x hx
    refine ⟨h1, cs, τ.keep m h2, fun j u hu => ?_⟩
    have h4 := h3 j u hu
    have h5 := World.block_lt_of_cell? w _ h4
    rw [block_of_add] at h5
    exact (World.cell?_of_block (w := w) (by rw [block_of_add]; exact m _ h1 h5)).trans h4⟩
theorem Sl.sub (h : Sl τ S w A c xs) (hs : ∀ b, S b → S' b) : Sl τ S' w A c xs :=
  ⟨h.cap, h.max, h.nil, fun i x hx => by
    obtain ⟨h1, cs, h2, h3⟩ := h.rows i x hx
    exact ⟨hs _ h1, cs, τ.sub hs h2, h3⟩⟩
theorem Sl.len_le (h : Sl τ S w A c xs) : xs.length ≤ 9223372036854775807 := by
  have h1 := h.cap
  have h2 := h.max
  simp only [maxLen] at h2
  omega
theorem Sl.any (h : Sl τ S w A c xs) : Sl τ (fun _ => True) w A c xs := h.sub fun _ _ => trivial
theorem Sl.some_ (h : Sl τ S w A c xs) {i : Nat} {x : α} (hx : xs[i]? = some x) : A = some (adr A) := by
  cases hA : A with
  | none =>
    have h1 := h.nil hA
    have h2 := h.cap
    have h3 : i < xs.length := (List.getElem?_eq_some_iff.1 hx).1
    omega
  | some a => rfl
theorem Sl.lt (h : Sl τ S w A c xs) {i : Nat} {x : α} (hx : xs[i]? = some x) : (adr A).block < w.heap.size := by
  obtain ⟨_, cs, h2, h3⟩ := h.rows i x hx
  have hl := τ.len h2
  have hp := τ.pos
  have h0 : cs[0]? = some (cs[0]'(by omega)) := List.getElem?_eq_getElem _
  have := World.block_lt_of_cell? w _ (h3 0 _ h0)
  rwa [block_of_add] at this
theorem Sl.bd (h : Sl τ S w A c xs) : Sl τ (fun g => S g ∧ g < w.heap.size) w A c xs :=
  ⟨h.cap, h.max, h.nil, fun i x hx => by
    obtain ⟨h1, cs, h2, h3⟩ := h.rows i x hx
    exact ⟨⟨h1, h.lt hx⟩, cs, τ.bd h2, h3⟩⟩
/-- the cells of all elements, one behind the other -/
theorem Sl.cells (h : Sl τ S w A c xs) : ∃ css : List (List Value), css.length = xs.length ∧ (∀ (i : Nat) (x : α), xs[i]? = some x → ∃ cs, css[i]? = some cs ∧ τ.R S w x cs) ∧
    css.flatten.length = xs.length * τ.k ∧ (∀ u ∈ css.flatten, u.oneCell' = true) ∧ ∀ j u, css.flatten[j]? = some u → w.cell? ((adr A).add j) = some u := by
  have key : ∀ (ys : List α) (o : Nat), (∀ (i : Nat) (x : α), ys[i]? = some x → ∃ cs, τ.R S w x cs ∧ ∀ j u, cs[j]? = some u → w.cell? ((adr A).add ((o + i) * τ.k + j)) = some u) →
      ∃ css : List (List Value), css.length = ys.length ∧ (∀ (i : Nat) (x : α), ys[i]? = some x → ∃ cs, css[i]? = some cs ∧ τ.R S w x cs) ∧
        css.flatten.length = ys.length * τ.k ∧ (∀ u ∈ css.flatten, u.oneCell' = true) ∧ ∀ j u, css.flatten[j]? = some u → w.cell? ((adr A).add (o * τ.k + j)) = some u := by
    intro ys
    induction ys with
    | nil => intro o _; exact ⟨[], rfl, fun i x hx => by simp at hx, by simp, by simp, fun j u hu => by simp at hu⟩
    | cons y ys ih =>
      intro o hy
      obtain ⟨cs, hR, hc⟩ := hy 0 y rfl
      obtain ⟨css, h1, h2, h3, h4, h5⟩ := ih (o + 1) (fun i x hx => by
        obtain ⟨cs, hR, hc⟩ := hy (i + 1) x (by simpa using hx)
        exact ⟨cs, hR, fun j u hu => by have := hc j u hu; rwa [show o + 1 + i = o + (i + 1) from by omega]⟩)
      have hl := τ.len hR
      refine ⟨cs :: css, by simp [h1], ?_, ?_, ?_, ?_⟩
      · intro i x hx
        cases i with
        | zero => simp at hx; subst hx; exact ⟨cs, rfl, hR⟩
        | succ i => obtain ⟨cs', h6, h7⟩ := h2 i x (by simpa using hx); exact ⟨cs', by simpa using h6, h7⟩
      · simp only [List.flatten_cons, List.length_append, hl, h3, List.length_cons, Nat.add_mul, Nat.one_mul]; omega
      · intro u hu
        rw [List.flatten_cons] at hu
        rcases List.mem_append.1 hu with h | h
        · exact τ.one hR u h
        · exact h4 u h
      · intro j u hu
        rw [List.flatten_cons] at hu
        by_cases hj : j < cs.length
        · rw [List.getElem?_append_left hj] at hu
          have := hc j u hu
          simpa using this
        · rw [List.getElem?_append_right (by omega)] at hu
          have := h5 _ u hu
          rw [show (o + 1) * τ.k + (j - cs.length) = o * τ.k + j from by rw [Nat.add_mul, Nat.one_mul]; omega] at this
          exact this
  obtain ⟨css, h1, h2, h3, h4, h5⟩ := key xs 0 (fun i x hx => by
    obtain ⟨_, cs, hR, hc⟩ := h.rows i x hx
    exact ⟨cs, hR, fun j u hu => by have := hc j u hu; simpa using this⟩)
  exact ⟨css, h1, h2, h3, h4, fun j u hu => by have := h5 j u hu; simpa using this⟩
end

/-- the slice's row is the call's own, from block lo on; what lies behind it is of S -/
def Own {α : Type} (τ : Ty α) (e : TypeId) (lo : Nat) (S : Nat → Prop) (w : World) (A : Option Addr) (c : Nat) (xs : List α) : Prop :=
  ∃ css : List (List Value), css.length = xs.length ∧ (∀ (i : Nat) (x : α), xs[i]? = some x → ∃ cs, css[i]? = some cs ∧ τ.R S w x cs) ∧ w.ownsRow lo e τ.k (.slice A xs.length c) xs.length css.flatten

def blk (A : Option Addr) : Option Nat := A.map (·.block)

section
variable {α : Type} {τ : Ty α} {e : TypeId} {lo lo' : Nat} {S S' : Nat → Prop} {w w' : World} {A : Option Addr} {c g : Nat} {xs : List α}
theorem Own.none_ (τ : Ty α) (e : TypeId) (lo : Nat) (S : Nat → Prop) (w : World) : Own τ e lo S w none 0 [] :=
  ⟨[], rfl, fun i x h => by simp at h, World.ownsRow_nil w lo e τ.k⟩
theorem flat_at {k : Nat} : ∀ (css : List (List Value)) (_ : ∀ cs ∈ css, cs.length = k) (i : Nat) (cs : List Value) (_ : css[i]? = some cs) (j : Nat) (u : Value), cs[j]? = some u → css.flatten[i * k + j]? = some u
  | [], _, i, cs, h, _, _, _ => by simp at h
  | c0 :: css, hk, i, cs, h, j, u, hu => by
    have h0 : c0.length = k := hk c0 (by simp)
    cases i with
    | zero =>
      simp at h; subst h
      have : j < c0.length := (List.getElem?_eq_some_iff.1 hu).1
      simp only [List.flatten_cons, Nat.zero_mul, Nat.zero_add]
      rw [List.getElem?_append_left this]; exact hu
    | succ i =>
      simp only [List.flatten_cons]
      rw [List.getElem?_append_right (by rw [h0, Nat.add_mul, Nat.one_mul]; omega), h0, show (i + 1) * k + j - k = i * k + j from by rw [Nat.add_mul, Nat.one_mul]; omega]
      exact flat_at css (fun cs hcs => hk cs (by simp [hcs])) i cs (by simpa using h) j u hu
theorem css_len {css : List (List Value)} (h1 : css.length = xs.length) (h2 : ∀ (i : Nat) (x : α), xs[i]? = some x → ∃ cs, css[i]? = some cs ∧ τ.R S w x cs) : ∀ cs ∈ css, cs.length = τ.k := by
  intro cs hcs
  obtain ⟨i, hi, rfl⟩ := List.getElem_of_mem hcs
  obtain ⟨cs', h3, h4⟩ := h2 i (xs[i]'(by omega)) (List.getElem?_eq_getElem _)
  rw [List.getElem?_eq_getElem hi] at h3
  cases h3
  exact τ.len h4
theorem Own.slb (h : Own τ e lo S w A c xs) (h1 : ∀ b, blk A = some b → S' b) (h2 : ∀ b, S b → S' b) : Sl τ S' w A c xs := by
  obtain ⟨css, hl, hR, hown⟩ := h
  have hk := css_len hl hR
  rcases hown.2 with ⟨hv, hn⟩ | ⟨g, cap, cur, hv, hg, hh, hnc, hcm, hcs, ht⟩
  · injection hv with hA hn' hc
    have hx : xs = [] := List.eq_nil_of_length_eq_zero hn
    subst hx hA hc
    exact Sl.none_ τ S' w
  · injection hv with hA hn' hc
    subst hA hc
    refine ⟨hnc, hcm, (fun h => by cases h), fun i x hx => ?_⟩
    obtain ⟨cs, h3, h4⟩ := hR i x hx
    exact ⟨h1 _ rfl, cs, τ.sub h2 h4, fun j u hu => hown.cells (g := g) rfl _ _ (flat_at css hk i cs h3 j u hu)⟩
theorem Own.sl (h : Own τ e lo S w A c xs) (h1 : ∀ b, lo ≤ b → S' b) (h2 : ∀ b, S b → S' b) : Sl τ S' w A c xs := by
  refine h.slb (fun g hg => h1 g ?_) h2
  obtain ⟨css, hl, hR, hown⟩ := h
  rcases hown.2 with ⟨hv, hn⟩ | ⟨g', cap, cur, hv, hg', _⟩
  · injection hv with hA _ _; rw [hA] at hg; simp [blk] at hg
  · injection hv with hA _ _; rw [hA] at hg; simp [blk] at hg; omega
theorem Own.blk_lt (h : Own τ e lo S w A c xs) : ∀ g, blk A = some g → lo ≤ g ∧ g < w.heap.size := by
  obtain ⟨css, hl, hR, hown⟩ := h
  intro g hg
  refine hown.lt g ?_
  cases A with
  | none => simp [blk] at hg
  | some a => simpa [blk, Value.ownBlock] using hg
theorem Own.ext (h : Own τ e lo S w A c xs) (x : Ext w w') : Own τ e lo S w' A c xs := by
  obtain ⟨css, hl, hR, hown⟩ := h
  refine ⟨css, hl, fun i y hy => ?_, hown.kept (row := none) ⟨x.os, x.tape, x.output, x.size, fun k hk _ => x.block k hk⟩ (by cases hv : (Value.slice A xs.length c).ownBlock <;> simp)⟩
  obtain ⟨cs, h1, h2⟩ := hR i y hy
  exact ⟨cs, h1, τ.ext x h2⟩
theorem Own.mod (h : Own τ e lo S w A c xs) (m : Mod g w w') (hS : ¬ S g) (hg : blk A ≠ some g) : Own τ e lo S w' A c xs := by
  obtain ⟨css, hl, hR, hown⟩ := h
  refine ⟨css, hl, fun i y hy => ?_, hown.kept (row := some g) ⟨m.os, m.tape, m.output, m.size, fun k hk hn => m.block k hk (fun e => hn (by rw [e]))⟩ (.inr ?_)⟩
  · obtain ⟨cs, h1, h2⟩ := hR i y hy
    exact ⟨cs, h1, τ.mod m hS h2⟩
  · intro he
    apply hg
    cases A with
    | none => simp [Value.ownBlock] at he
    | some a => simpa [blk, Value.ownBlock] using he
theorem Own.keep (h : Own τ e lo S w A c xs) (m : ∀ g, blk A = some g ∨ S g → g < w.heap.size → w'.heap[g]? = w.heap[g]?) : Own τ e lo S w' A c xs := by
  obtain ⟨css, hl, hR, hown⟩ := h
  refine ⟨css, hl, fun i y hy => ?_, hown.1, ?_⟩
  · obtain ⟨cs, h1, h2⟩ := hR i y hy
    exact ⟨cs, h1, τ.keep (fun g hg => m g (.inr hg)) h2⟩
  · rcases hown.2 with h2 | ⟨g, cap, cur, hv, hg, hh, rest⟩
    · exact .inl h2
    · injection hv with hA hn hc
      refine .inr ⟨g, cap, cur, by rw [hA, hn, hc], hg, ?_, rest⟩
      have hlt : g < w.heap.size := by
        rcases Nat.lt_or_ge g w.heap.size with h | h
        · exact h
        · rw [Array.getElem?_eq_none h] at hh; cases hh
      rw [m g (.inl (by rw [hA]; rfl)) hlt]; exact hh
theorem Own.lift (h : Own τ e lo S w A c xs) (hlo : ∀ g, blk A = some g → lo' ≤ g) : Own τ e lo' S w A c xs := by
  obtain ⟨css, hl, hR, hown⟩ := h
  refine ⟨css, hl, hR, hown.1, ?_⟩
  rcases hown.2 with h2 | ⟨g, cap, cur, hv, hg, rest⟩
  · exact .inl h2
  · injection hv with hA hn hc
    exact .inr ⟨g, cap, cur, by rw [hA, hn, hc], hlo g (by rw [hA]; rfl), rest⟩
theorem Own.low (h : Own τ e lo S w A c xs) (hlo : lo' ≤ lo) (hS : ∀ b, S b → S' b) : Own τ e lo' S' w A c xs := by
  obtain ⟨css, hl, hR, hown⟩ := h
  refine ⟨css, hl, fun i y hy => ?_, hown.1, ?_⟩
  · obtain ⟨cs, h1, h2⟩ := hR i y hy
    exact ⟨cs, h1, τ.sub hS h2⟩
  · rcases hown.2 with h2 | ⟨g, cap, cur, hv, hg, rest⟩
    · exact .inl h2
    · exact .inr ⟨g, cap, cur, hv, by omega, rest⟩
end

/-- blocks that are new since w -/
def Fr (w : World) : Nat → Prop := fun b => w.heap.size ≤ b
def Any : Nat → Prop := fun _ => True
theorem Fr.not {w : World} {g : Nat} (h : g < w.heap.size) : ¬ Fr w g := by unfold Fr; omega
theorem Fr.sub {a b : World} (h : a.heap.size ≤ b.heap.size) : ∀ x, Fr b x → Fr a x := fun x hx => Nat.le_trans h hx
theorem Any.sub {S : Nat → Prop} : ∀ x, S x → Any x := fun _ _ => trivial
theorem get_some {α : Type} {xs : List α} {i : Nat} (h : i < xs.length) : ∃ x, xs[i]? = some x := ⟨xs[i], List.getElem?_eq_getElem h⟩
theorem lt_of_get {α : Type} {xs : List α} {i : Nat} {x : α} (h : xs[i]? = some x) : i < xs.length := (List.getElem?_eq_some_iff.1 h).1

theorem not_dec_t {p : Prop} [Decidable p] (h : (!decide p) = true) : ¬ p := by simpa using h
theorem not_dec_f {p : Prop} [Decidable p] (h : (!decide p) = false) : p := by simpa using h

/-! ### what a walk holds of memory: rows and boxes of its own, rows that it may read -/
structure Res where
  W : Nat → Prop
  ok : (Nat → Prop) → World → Prop
  sub : ∀ {S S' : Nat → Prop} {w : World}, (∀ g, S g → S' g) → ok S w → ok S' w
  keep : ∀ {S : Nat → Prop} {w w' : World}, (∀ g, W g ∨ S g → g < w.heap.size → w'.heap[g]? = w.heap[g]?) → ok S w → ok S w'
def rOwn {α : Type} (τ : Ty α) (e : TypeId) (A : Option Addr) (c : Nat) (xs : List α) : Res where
  W := fun g => blk A = some g
  ok := fun S w => Own τ e 0 S w A c xs
  sub := fun hs h => h.low (Nat.le_refl _) hs
  keep := fun hm h => h.keep hm
def rSl {α : Type} (τ : Ty α) (A : Option Addr) (c : Nat) (xs : List α) : Res where
  W := fun _ => False
  ok := fun S w => Sl τ S w A c xs
  sub := fun hs h => h.sub hs
  keep := fun hm h => h.keep fun g hg => hm g (.inr hg)
def rBx (g : Nat) (t : TypeId) (cs : List Value) : Res where
  W := fun b => b = g
  ok := fun _ w => Bx w g t cs
  sub := fun _ h => h
  keep := fun {_ w _} hm h => (hm g (.inl rfl) h.lt).trans h
/-- what may be read: of the blocks ahead of b those of S; of the others those that are nobody's own -/
def Rd (b : World) (S : Nat → Prop) (rs : List Res) (w : World) : Nat → Prop := fun g => (g < b.heap.size ∧ S g) ∨ (b.heap.size ≤ g ∧ g < w.heap.size ∧ ∀ r ∈ rs, ¬ r.W g)
structure Hp (b : World) (S : Nat → Prop) (w : World) (rs : List Res) : Prop where
  ext : Ext b w
  ok : ∀ r ∈ rs, r.ok (Rd b S rs w) w
  lo : ∀ r ∈ rs, ∀ g, r.W g → b.heap.size ≤ g ∧ g < w.heap.size
  dis : rs.Pairwise fun r s => ∀ g, r.W g → ¬ s.W g
inductive Sel {α : Type} : List α → α → List α → Prop
  | h {r : α} {rs : List α} : Sel (r :: rs) r rs
  | t {r q : α} {rs rest : List α} : Sel rs r rest → Sel (q :: rs) r (q :: rest)
section
variable {α : Type} {q0 q1 q2 q3 q4 q5 q6 q7 q8 q9 q10 q11 q12 q13 q14 q15 r : α} {rs : List α}
theorem s0 : Sel (r :: rs) r rs := .h
theorem s1 : Sel (q0 :: r :: rs) r (q0 :: rs) := .t .h
theorem s2 : Sel (q0 :: q1 :: r :: rs) r (q0 :: q1 :: rs) := .t s1
theorem s3 : Sel (q0 :: q1 :: q2 :: r :: rs) r (q0 :: q1 :: q2 :: rs) := .t s2
theorem s4 : Sel (q0 :: q1 :: q2 :: q3 :: r :: rs) r (q0 :: q1 :: q2 :: q3 :: rs) := .t s3
theorem s5 : Sel (q0 :: q1 :: q2 :: q3 :: q4 :: r :: rs) r (q0 :: q1 :: q2 :: q3 :: q4 :: rs) := .t s4
theorem s6 : Sel (q0 :: q1 :: q2 :: q3 :: q4 :: q5 :: r :: rs) r (q0 :: q1 :: q2 :: q3 :: q4 :: q5 :: rs) := .t s5
theorem s7 : Sel (q0 :: q1 :: q2 :: q3 :: q4 :: q5 :: q6 :: r :: rs) r (q0 :: q1 :: q2 :: q3 :: q4 :: q5 :: q6 :: rs) := .t s6
theorem s8 : Sel (q0 :: q1 :: q2 :: q3 :: q4 :: q5 :: q6 :: q7 :: r :: rs) r (q0 :: q1 :: q2 :: q3 :: q4 :: q5 :: q6 :: q7 :: rs) := .t s7
theorem s9 : Sel (q0 :: q1 :: q2 :: q3 :: q4 :: q5 :: q6 :: q7 :: q8 :: r :: rs) r (q0 :: q1 :: q2 :: q3 :: q4 :: q5 :: q6 :: q7 :: q8 :: rs) := .t s8
theorem s10 : Sel (q0 :: q1 :: q2 :: q3 :: q4 :: q5 :: q6 :: q7 :: q8 :: q9 :: r :: rs) r (q0 :: q1 :: q2 :: q3 :: q4 :: q5 :: q6 :: q7 :: q8 :: q9 :: rs) := .t s9
theorem s11 : Sel (q0 :: q1 :: q2 :: q3 :: q4 :: q5 :: q6 :: q7 :: q8 :: q9 :: q10 :: r :: rs) r (q0 :: q1 :: q2 :: q3 :: q4 :: q5 :: q6 :: q7 :: q8 :: q9 :: q10 :: rs) := .t s10
theorem s12 : Sel (q0 :: q1 :: q2 :: q3 :: q4 :: q5 :: q6 :: q7 :: q8 :: q9 :: q10 :: q11 :: r :: rs) r (q0 :: q1 :: q2 :: q3 :: q4 :: q5 :: q6 :: q7 :: q8 :: q9 :: q10 :: q11 :: rs) := .t s11
theorem s13 : Sel (q0 :: q1 :: q2 :: q3 :: q4 :: q5 :: q6 :: q7 :: q8 :: q9 :: q10 :: q11 :: q12 :: r :: rs) r (q0 :: q1 :: q2 :: q3 :: q4 :: q5 :: q6 :: q7 :: q8 :: q9 :: q10 :: q11 :: q12 :: rs) := .t s12
theorem s14 : Sel (q0 :: q1 :: q2 :: q3 :: q4 :: q5 :: q6 :: q7 :: q8 :: q9 :: q10 :: q11 :: q12 :: q13 :: r :: rs) r (q0 :: q1 :: q2 :: q3 :: q4 :: q5 :: q6 :: q7 :: q8 :: q9 :: q10 :: q11 :: q12 :: q13 :: rs) := .t s13
theorem s15 : Sel (q0 :: q1 :: q2 :: q3 :: q4 :: q5 :: q6 :: q7 :: q8 :: q9 :: q10 :: q11 :: q12 :: q13 :: q14 :: r :: rs) r (q0 :: q1 :: q2 :: q3 :: q4 :: q5 :: q6 :: q7 :: q8 :: q9 :: q10 :: q11 :: q12 :: q13 :: q14 :: rs) := .t s14
theorem Sel.perm {rest : List α} (h : Sel rs r rest) : rs.Perm (r :: rest) := by
  induction h with
  | h => exact List.Perm.refl _
  | t _ ih => exact (ih.cons _).trans (List.Perm.swap _ _ _)
end
section
variable {b w w' : World} {S S' : Nat → Prop} {rs rs' rest F : List Res} {r r' : Res} {α : Type} {τ : Ty α} {e : TypeId} {A A' : Option Addr} {c c' : Nat} {xs ys : List α}
theorem Rd.perm (h : rs.Perm rs') : ∀ g, Rd b S rs w g → Rd b S rs' w g := by
  rintro g (h1 | ⟨h1, h2, h3⟩)
  · exact .inl h1
  · exact .inr ⟨h1, h2, fun r hr => h3 r (h.mem_iff.2 hr)⟩
theorem Hp.perm (H : Hp b S w rs) (h : rs.Perm rs') : Hp b S w rs' :=
  ⟨H.ext, fun r hr => r.sub (Rd.perm h) (H.ok r (h.mem_iff.2 hr)), fun r hr => H.lo r (h.mem_iff.2 hr),
    H.dis.perm h (fun hxy g hy hx => hxy g hx hy)⟩
theorem Hp.sel (H : Hp b S w rs) (s : Sel rs r rest) : Hp b S w (r :: rest) := H.perm s.perm
theorem Hp.init (w : World) (S : Nat → Prop) : Hp w S w [] := ⟨Ext.refl w, fun r hr => by simp at hr, fun r hr => by simp at hr, List.Pairwise.nil⟩
theorem Rd.grow (hw : w.heap.size ≤ w'.heap.size) : ∀ g, Rd b S rs w g → Rd b S rs w' g := by
  rintro g (h1 | ⟨h1, h2, h3⟩)
  · exact .inl h1
  · exact .inr ⟨h1, Nat.lt_of_lt_of_le h2 hw, h3⟩
theorem Hp.grow (H : Hp b S w rs) (e : Ext w w') : Hp b S w' rs :=
  ⟨H.ext.trans e, fun r hr => r.sub (Rd.grow e.size) (r.keep (fun g _ hlt => e.block g hlt) (H.ok r hr)),
    fun r hr g hg => ⟨(H.lo r hr g hg).1, Nat.lt_of_lt_of_le (H.lo r hr g hg).2 e.size⟩, H.dis⟩
theorem Hp.tail (H : Hp b S w (r :: rs)) : Hp b S w rs := by
  refine ⟨H.ext, fun q hq => q.sub ?_ (H.ok q (by simp [hq])), fun q hq => H.lo q (by simp [hq]), (List.pairwise_cons.1 H.dis).2⟩
  rintro g (h1 | ⟨h1, h2, h3⟩)
  · exact .inl h1
  · exact .inr ⟨h1, h2, fun q hq => h3 q (by simp [hq])⟩
theorem Hp.rm (H : Hp b S w rs) (s : Sel rs r rest) : Hp b S w rest := (H.sel s).tail
/-- one more, new -/
theorem Hp.new (H : Hp b S w rs) (e : Ext w w') (hW : ∀ g, r.W g → w.heap.size ≤ g ∧ g < w'.heap.size) (hok : r.ok (Rd b S rs w) w') : Hp b S w' (r :: rs) := by
  have hsub : ∀ g, Rd b S rs w g → Rd b S (r :: rs) w' g := by
    rintro g (h1 | ⟨h1, h2, h3⟩)
    · exact .inl h1
    · refine .inr ⟨h1, Nat.lt_of_lt_of_le h2 e.size, fun q hq => ?_⟩
      rcases List.mem_cons.1 hq with rfl | hq
      · intro h; have := (hW g h).1; omega
      · exact h3 q hq
  refine ⟨H.ext.trans e, fun q hq => ?_, fun q hq g hg => ?_, List.pairwise_cons.2 ⟨fun q hq g hg hg2 => ?_, H.dis⟩⟩
  · rcases List.mem_cons.1 hq with rfl | hq
    · exact q.sub hsub hok
    · exact q.sub hsub (q.keep (fun g _ hlt => e.block g hlt) (H.ok q hq))
  · rcases List.mem_cons.1 hq with rfl | hq
    · have h1 := hW g hg; have := H.ext.size; omega
    · have h1 := H.lo q hq g hg; have := e.size; omega
  · have h1 := (hW g hg).1; have h2 := (H.lo q hq g hg2).2; omega
/-- one of them was written, or came to lie elsewhere -/
structure Wr (b w w' : World) (W : Nat → Prop) : Prop where
  os : w'.os = w.os
  tape : w'.tape = w.tape
  output : w'.output = w.output
  size : w.heap.size ≤ w'.heap.size
  block : ∀ k, k < w.heap.size → ¬ W k → w'.heap[k]? = w.heap[k]?
  drawn : w.drawn ≤ w'.drawn
theorem Hp.put (H : Hp b S w (r :: rs)) (m : Wr b w w' r.W) (hW : ∀ g, r'.W g → r.W g ∨ (w.heap.size ≤ g ∧ g < w'.heap.size)) (hok : r'.ok (Rd b S (r :: rs) w) w') : Hp b S w' (r' :: rs) := by
  have hd := List.pairwise_cons.1 H.dis
  have hsub : ∀ g, Rd b S (r :: rs) w g → Rd b S (r' :: rs) w' g := by
    rintro g (h1 | ⟨h1, h2, h3⟩)
    · exact .inl h1
    · refine .inr ⟨h1, Nat.lt_of_lt_of_le h2 m.size, fun q hq => ?_⟩
      rcases List.mem_cons.1 hq with rfl | hq
      · intro h
        rcases hW g h with h4 | h4
        · exact h3 r (by simp) h4
        · omega
      · exact h3 q (by simp [hq])
  refine ⟨⟨m.os.trans H.ext.os, m.tape.trans H.ext.tape, m.output.trans H.ext.output, Nat.le_trans H.ext.size m.size, fun k hk => ?_, Nat.le_trans H.ext.drawn m.drawn⟩, fun q hq => ?_, fun q hq g hg => ?_, List.pairwise_cons.2 ⟨fun q hq g hg hg2 => ?_, hd.2⟩⟩
  · refine (m.block k (Nat.lt_of_lt_of_le hk H.ext.size) fun h => ?_).trans (H.ext.block k hk)
    have := (H.lo r (by simp) k h).1; omega
  · rcases List.mem_cons.1 hq with rfl | hq
    · exact q.sub hsub hok
    · refine q.sub hsub (q.keep (fun g hg hlt => m.block g hlt fun h => ?_) (H.ok q (by simp [hq])))
      rcases hg with hg | hg
      · exact hd.1 q hq g h hg
      · rcases hg with hg | hg
        · have := (H.lo r (by simp) g h).1; omega
        · exact hg.2.2 r (by simp) h
  · rcases List.mem_cons.1 hq with rfl | hq
    · rcases hW g hg with h1 | h1
      · have := H.lo r (by simp) g h1; have := m.size; omega
      · have := H.ext.size; omega
    · have h1 := H.lo q (by simp [hq]) g hg; have := m.size; omega
  · rcases hW g hg with h1 | h1
    · exact hd.1 q hq g h1 hg2
    · have := (H.lo q (by simp [hq]) g hg2).2; omega
/-- what a call hands back -/
theorem Hp.lift (H : Hp b S w F) (h : Hp w (Rd b S F w) w' rs) : Hp b S w' (rs ++ F) := by
  have e := h.ext
  have hs1 : ∀ g, Rd w (Rd b S F w) rs w' g → Rd b S (rs ++ F) w' g := by
    rintro g (⟨h0, h1 | ⟨h1, h2, h3⟩⟩ | ⟨h1, h2, h3⟩)
    · exact .inl h1
    · refine .inr ⟨h1, Nat.lt_of_lt_of_le h2 e.size, fun q hq => ?_⟩
      rcases List.mem_append.1 hq with hq | hq
      · intro h4; have := (h.lo q hq g h4).1; omega
      · exact h3 q hq
    · refine .inr ⟨Nat.le_trans H.ext.size h1, h2, fun q hq => ?_⟩
      rcases List.mem_append.1 hq with hq | hq
      · exact h3 q hq
      · intro h4; have := (H.lo q hq g h4).2; omega
  have hs2 : ∀ g, Rd b S F w g → Rd b S (rs ++ F) w' g := by
    rintro g (h1 | ⟨h1, h2, h3⟩)
    · exact .inl h1
    · refine .inr ⟨h1, Nat.lt_of_lt_of_le h2 e.size, fun q hq => ?_⟩
      rcases List.mem_append.1 hq with hq | hq
      · intro h4; have := (h.lo q hq g h4).1; omega
      · exact h3 q hq
  refine ⟨H.ext.trans e, fun q hq => ?_, fun q hq g hg => ?_, List.pairwise_append.2 ⟨h.dis, H.dis, fun q hq p hp g hg hg2 => ?_⟩⟩
  · rcases List.mem_append.1 hq with hq | hq
    · exact q.sub hs1 (h.ok q hq)
    · exact q.sub hs2 (q.keep (fun g _ hlt => e.block g hlt) (H.ok q hq))
  · rcases List.mem_append.1 hq with hq | hq
    · have h1 := h.lo q hq g hg; have := H.ext.size; omega
    · have h1 := H.lo q hq g hg; have := e.size; omega
  · have h1 := (h.lo q hq g hg).1; have h2 := (H.lo p hp g hg2).2; omega
/-- a resource that says all, whatever may be read -/
class FlatR (r : Res) : Prop where
  h : ∀ {S S' : Nat → Prop} {w : World}, r.ok S w → r.ok S' w
instance [Flat τ] : FlatR (rOwn τ e A c xs) := ⟨fun {S S' w} h => by
  obtain ⟨css, hl, hR, hown⟩ := h
  exact ⟨css, hl, fun i y hy => by obtain ⟨cs, h1, h2⟩ := hR i y hy; exact ⟨cs, h1, Flat.h h2⟩, hown⟩⟩
instance {g : Nat} {t : TypeId} {cs : List Value} : FlatR (rBx g t cs) := ⟨fun h => h⟩
class FlatRs (rs : List Res) : Prop where
  h : ∀ r ∈ rs, FlatR r
instance : FlatRs [] := ⟨fun r hr => by simp at hr⟩
instance [h1 : FlatR r] [h2 : FlatRs rs] : FlatRs (r :: rs) := ⟨fun q hq => by
  rcases List.mem_cons.1 hq with rfl | hq
  · exact h1
  · exact h2.h q hq⟩
theorem Hp.re [hf : FlatRs rs] (h : Hp b S w rs) : Hp b S' w rs := ⟨h.ext, fun r hr => (hf.h r hr).h (h.ok r hr), h.lo, h.dis⟩
theorem Hp.c0 (H : Hp b S w F) {S' : Nat → Prop} (h : Hp w S' w' []) : Hp b S w' F := H.grow h.ext
theorem Hp.c1 (H : Hp b S w F) (h : Hp w (Rd b S F w) w' [r]) : Hp b S w' (r :: F) := H.lift h
theorem Hp.c2 {r1 r2 : Res} (H : Hp b S w F) (h : Hp w (Rd b S F w) w' [r1, r2]) : Hp b S w' (r1 :: r2 :: F) := H.lift h
theorem Hp.c3 {r1 r2 r3 : Res} (H : Hp b S w F) (h : Hp w (Rd b S F w) w' [r1, r2, r3]) : Hp b S w' (r1 :: r2 :: r3 :: F) := H.lift h
theorem Hp.c4 {r1 r2 r3 r4 : Res} (H : Hp b S w F) (h : Hp w (Rd b S F w) w' [r1, r2, r3, r4]) : Hp b S w' (r1 :: r2 :: r3 :: r4 :: F) := H.lift h
theorem Hp.f1 [FlatR r] (H : Hp b S w F) (h : Hp w S' w' [r]) : Hp b S w' (r :: F) := H.lift h.re
theorem Hp.f2 {r1 r2 : Res} [FlatR r1] [FlatR r2] (H : Hp b S w F) (h : Hp w S' w' [r1, r2]) : Hp b S w' (r1 :: r2 :: F) := H.lift h.re
theorem Hp.f3 {r1 r2 r3 : Res} [FlatR r1] [FlatR r2] [FlatR r3] (H : Hp b S w F) (h : Hp w S' w' [r1, r2, r3]) : Hp b S w' (r1 :: r2 :: r3 :: F) := H.lift h.re
/-- what is known at the start -/
theorem Hp.a (H : Hp b S w rs) (h : Sl τ S b A c xs) : Sl τ (Rd b S rs w) w A c xs :=
  (h.ext H.ext |>.keep (w' := w) (fun _ _ _ => rfl)) |> fun _ => ((h.bd.sub (S' := Rd b S rs w) (fun g hg => .inl ⟨hg.2, hg.1⟩)).ext H.ext)
theorem Hp.o (H : Hp b S w rs) (s : Sel rs (rOwn τ e A c xs) rest) : Sl τ Any w A c xs :=
  Own.sl (H.ok (rOwn τ e A c xs) (s.perm.mem_iff.2 (by simp))) (fun _ _ => trivial) (fun _ _ => trivial)
theorem Hp.ow (H : Hp b S w rs) (s : Sel rs (rOwn τ e A c xs) rest) : Own τ e b.heap.size (Rd b S rs w) w A c xs :=
  Own.lift (lo := 0) (H.ok (rOwn τ e A c xs) (s.perm.mem_iff.2 (by simp))) (fun g hg => (H.lo (rOwn τ e A c xs) (s.perm.mem_iff.2 (by simp)) g hg).1)
theorem Hp.s (H : Hp b S w rs) (s : Sel rs (rSl τ A c xs) rest) : Sl τ (Rd b S rs w) w A c xs := H.ok (rSl τ A c xs) (s.perm.mem_iff.2 (by simp))
theorem Hp.x {g : Nat} {t : TypeId} {cs : List Value} (H : Hp b S w rs) (s : Sel rs (rBx g t cs) rest) : Bx w g t cs := H.ok (rBx g t cs) (s.perm.mem_iff.2 (by simp))
/-- a row that may be read from now on -/
theorem Hp.push (H : Hp b S w rs) (h : Sl τ (Rd b S rs w) w A c xs) : Hp b S w (rSl τ A c xs :: rs) := H.new (r := rSl τ A c xs) (Ext.refl w) (fun _ h => h.elim) h
theorem Hp.nil (H : Hp b S w rs) (τ : Ty α) (e : TypeId) : Hp b S w (rOwn τ e none 0 [] :: rs) :=
  H.new (r := rOwn τ e none 0 []) (Ext.refl w) (fun _ h => by cases h) (Own.none_ τ e 0 _ w)
theorem Hp.fz (H : Hp b S w rs) (s : Sel rs (rOwn τ e A c xs) rest) : Hp b S w (rSl τ A c xs :: rest) := by
  have H1 := H.sel s
  have h2 : Own τ e 0 (Rd b S (rOwn τ e A c xs :: rest) w) w A c xs := H1.ok (rOwn τ e A c xs) (by simp)
  refine ⟨H.ext, fun q hq => ?_, fun q hq g hg => ?_, List.pairwise_cons.2 ⟨fun q hq g hg => hg.elim, (List.pairwise_cons.1 H1.dis).2⟩⟩
  · rcases List.mem_cons.1 hq with rfl | hq
    · show Sl τ (Rd b S (rSl τ A c xs :: rest) w) w A c xs
      have h3 : Own τ e 0 (Rd b S (rSl τ A c xs :: rest) w) w A c xs := h2.low (Nat.le_refl _) (by
        rintro g (h | ⟨h4, h5, h6⟩)
        · exact .inl h
        · refine .inr ⟨h4, h5, fun r hr => ?_⟩
          rcases List.mem_cons.1 hr with rfl | hr
          · exact fun h => h
          · exact h6 r (by simp [hr]))
      refine h3.slb (fun g hg => ?_) (fun _ h => h)
      have h8 := H1.lo (rOwn τ e A c xs) (by simp) g hg
      refine .inr ⟨h8.1, h8.2, fun r hr => ?_⟩
      rcases List.mem_cons.1 hr with rfl | hr
      · exact fun h => h
      · exact (List.pairwise_cons.1 H1.dis).1 r hr g hg
    · refine q.sub ?_ (H1.ok q (by simp [hq]))
      rintro g (h | ⟨h4, h5, h6⟩)
      · exact .inl h
      · refine .inr ⟨h4, h5, fun r hr => ?_⟩
        rcases List.mem_cons.1 hr with rfl | hr
        · exact fun h => h
        · exact h6 r (by simp [hr])
  · rcases List.mem_cons.1 hq with rfl | hq
    · exact hg.elim
    · exact H1.lo q (by simp [hq]) g hg
end
/-! ### the frame: what slots hold -/

def look : List (Nat × Value) → Nat → Option Value
  | [], _ => none
  | p :: l, i => bif Nat.beq p.1 i then some p.2 else look l i

def evl (l : List (Nat × Value)) : Operand → Option Value
  | .tmp t => look l t
  | .const v => some v
  | .global g => some (.pointer (some ⟨g, 0, none⟩))
  | .func f => some (.func (.func f) #[] #[])

def evls (l : List (Nat × Value)) : List Operand → Option (List Value)
  | [] => some []
  | x :: xs => match evl l x, evls l xs with
    | some v, some vs => some (v :: vs)
    | _, _ => none

def evps (l : List (Nat × Value)) : List (Nat × Operand) → Option (List (Nat × Value))
  | [] => some []
  | x :: xs => match evl l x.2, evps l xs with
    | some v, some vs => some ((x.1, v) :: vs)
    | _, _ => none
theorem look_eq {l : List (Nat × Value)} {i : Nat} {u v : Value} (h : look l i = some u) (e : u = v) : look l i = some v := by rw [← e]; exact h

/-- what is known of an activation beside its slots' values: how many slots it has; of which loop it is a round; the marks of the loops over functions that have begun -/
structure Cx where
  size : Nat
  round : Option Nat
  marks : List Nat
  plain : Bool
def Cx.asPlain (n : Cx) : Cx := ⟨n.size, n.round, n.marks, true⟩
def Cx.fence (n : Cx) : Fence := { Fence.wide with round := n.round }
def Cx.defers (n : Cx) : List Deferred := n.marks.map fun D => { target := .collected D, args := #[] }
/-- an activation without marks, in no round -/
abbrev Cx.bare (k : Nat) : Cx := ⟨k, none, [], false⟩
theorem Cx.fence_wide {n : Cx} (h : n.round = none) : n.fence = Fence.wide := by unfold Cx.fence; rw [h]; rfl

/-- a frame of n slots; the slots of l hold what l says -/
structure Has (n : Cx) (l : List (Nat × Value)) (a : Act) : Prop where
  defers : a.defers = n.defers
  size : a.tmps.size = n.size
  get : ∀ i v, look l i = some v → a.tmps.getD i undef = v

section
variable {n : Cx} {l l' : List (Nat × Value)} {a : Act}
theorem Has.eval (h : Has n l a) {x : Operand} {v : Value} (hx : evl l x = some v) : a.eval x = v := by
  cases x with
  | tmp t => exact h.get t v hx
  | const c => injection hx
  | global g => injection hx
  | func f => injection hx
theorem Has.evals (h : Has n l a) : ∀ {xs : List Operand} {vs : List Value}, evls l xs = some vs → xs.map a.eval = vs
  | [], vs, hx => by simp [evls] at hx; simp [hx]
  | x :: xs, vs, hx => by
    unfold evls at hx
    cases h1 : evl l x with
    | none => simp [h1] at hx
    | some v =>
      cases h2 : evls l xs with
      | none => simp [h1, h2] at hx
      | some us =>
        simp [h1, h2] at hx
        subst hx
        simp [h.eval h1, Has.evals h h2]
theorem Has.evps (h : Has n l a) : ∀ {xs : List (Nat × Operand)} {vs : List (Nat × Value)}, Proofs.YtlnjmkmhmbijmaaGreat.evps l xs = some vs → xs.map (fun p => (p.1, a.eval p.2)) = vs
  | [], vs, hx => by simp [Proofs.YtlnjmkmhmbijmaaGreat.evps] at hx; simp [hx]
  | x :: xs, vs, hx => by
    unfold Proofs.YtlnjmkmhmbijmaaGreat.evps at hx
    cases h1 : evl l x.2 with
    | none => simp [h1] at hx
    | some v =>
      cases h2 : Proofs.YtlnjmkmhmbijmaaGreat.evps l xs with
      | none => simp [h1, h2] at hx
      | some us =>
        simp [h1, h2] at hx
        subst hx
        simp [h.eval h1, Has.evps h h2]
theorem Has.put (h : Has n l a) {d : Nat} (hd : Nat.blt d n.size = true) (v : Value) : Has n ((d, v) :: l) (a.put (some d) v) := by
  have hd' : d < n.size := by simpa [Nat.blt_eq] using hd
  have hs := h.size
  refine ⟨h.defers, by simp [Act.put, hs], fun i u hu => ?_⟩
  unfold look at hu
  cases hb : Nat.beq d i with
  | true =>
    have : d = i := Nat.eq_of_beq_eq_true hb
    subst this
    simp [hb] at hu
    subst hu
    simp [Act.put, hs, hd']
  | false =>
    have hne : d ≠ i := Nat.ne_of_beq_eq_false hb
    simp [hb] at hu
    have := h.get i u hu
    simp only [Array.getD_eq_getD_getElem?] at this
    simpa [Act.put, Array.getElem?_setIfInBounds_ne hne] using this
def Subs (l : List (Nat × Value)) : List (Nat × Value) → Prop
  | [] => True
  | p :: r => look l p.1 = some p.2 ∧ Subs l r
theorem Subs.look : ∀ {r : List (Nat × Value)}, Subs l r → ∀ i v, look r i = some v → look l i = some v
  | [], _, i, v, h => by simp [Proofs.YtlnjmkmhmbijmaaGreat.look] at h
  | p :: r, hs, i, v, h => by
    unfold Proofs.YtlnjmkmhmbijmaaGreat.look at h
    cases hb : Nat.beq p.1 i with
    | true =>
      have : p.1 = i := Nat.eq_of_beq_eq_true hb
      simp [hb] at h
      subst this h
      exact hs.1
    | false => simp [hb] at h; exact Subs.look hs.2 i v h
theorem Has.subs (h : Has n l a) (hs : Subs l l') : Has n l' a := ⟨h.defers, h.size, fun i v hv => h.get i v (hs.look i v hv)⟩
theorem Has.set (h : Has n l a) {t : Nat} {v v' : Value} (hl : look l t = some v) (e : v = v') : Has n ((t, v') :: l) a := by
  subst e
  refine ⟨h.defers, h.size, fun i u hu => ?_⟩
  unfold look at hu
  cases hb : Nat.beq t i with
  | true =>
    have : t = i := Nat.eq_of_beq_eq_true hb
    subst this
    simp [hb] at hu
    subst hu
    exact h.get t v hl
  | false => simp [hb] at hu; exact h.get i u hu
def enum : Nat → List Value → List (Nat × Value)
  | _, [] => []
  | i, v :: vs => (i, v) :: enum (i + 1) vs
theorem look_enum : ∀ (vs : List Value) (k i : Nat) (v : Value), look (enum k vs) i = some v → k ≤ i ∧ vs[i - k]? = some v
  | [], k, i, v, h => by simp [enum, look] at h
  | u :: vs, k, i, v, h => by
    simp only [enum, look] at h
    cases hb : Nat.beq k i with
    | true =>
      have : k = i := Nat.eq_of_beq_eq_true hb
      subst this
      simp [hb] at h
      subst h
      simp
    | false =>
      have hne : k ≠ i := Nat.ne_of_beq_eq_false hb
      simp [hb] at h
      obtain ⟨h1, h2⟩ := look_enum vs (k + 1) i v h
      refine ⟨by omega, ?_⟩
      rw [show i - k = (i - (k + 1)) + 1 from by omega]
      simpa using h2
end

/-! ### judgements -/

def WP (P : Program) (n : Cx) (c : Code) (l : List (Nat × Value)) (w : World) (Q : Exit → Act → World → Prop) : Prop := ∀ a, Has n l a → c.wpIn n.fence 0 P Q a w
/-- the rest of the code, as what is asked behind an operation -/
def cwp (P : Program) (n : Cx) (y : Code) (Q : Exit → Act → World → Prop) : Act → World → Prop := fun a w => y.wpIn n.fence 0 P Q a w

/-- what stands behind an exit -/
def Pst (n : Cx) (Q : Exit → Act → World → Prop) (e : Exit) (l : List (Nat × Value)) (w : World) : Prop := ∀ a, Has n l a → Q e a w

/-- one operation: as everywhere, or inside the fence -/
def opw (P : Program) (n : Cx) (o : Oper) (a : Act) (w : World) (next : Act → World → Prop) (Q : Exit → Act → World → Prop) : Prop :=
  match n.plain with
  | true => o.wp P a w next Q
  | false => o.wpIn n.fence 0 P a w next Q
theorem opw_mono {P : Program} {n : Cx} {o : Oper} {a : Act} {w : World} {Q : Exit → Act → World → Prop} {K K' : Act → World → Prop} (h : ∀ a w, K a w → K' a w) (hh : opw P n o a w K Q) : opw P n o a w K' Q := by
  unfold opw at hh ⊢
  cases hp : n.plain with
  | true => rw [hp] at hh; exact Oper.wp_mono h hh
  | false => rw [hp] at hh; exact Oper.wpIn_mono h hh
theorem semAt_of {P : Program} {n : Cx} {o : Oper} {a : Act} {w w' : World} {x : Next} (hx : ∀ d, x ≠ .defer d) (h : (execOp a.eval o).run P w = .ok x w') : o.semAt n.fence.round a.eval = execOp a.eval o := by
  refine Oper.semAt_eq _ _ _ fun c hc => ?_
  unfold execOp at h
  rw [hc] at h
  simp only [Sem.run_bind] at h
  cases hr : (resolve a.eval c o.type).run P w with
  | ok d w2 =>
    rw [hr] at h
    simp at h
    exact hx d h.1.symm
  | halt x w2 => rw [hr] at h; cases h
theorem opw_value {P : Program} {n : Cx} {o : Oper} {a : Act} {w w' : World} {v : Value} {Q : Exit → Act → World → Prop} {K : Act → World → Prop} (h : (execOp a.eval o).run P w = .ok (.value v) w') (k : K (a.put o.dst v) w') : opw P n o a w K Q := by
  unfold opw
  cases n.plain with
  | true => show o.wp P a w K Q; unfold Oper.wp; rw [h]; exact k
  | false => exact ⟨fun _ _ => trivial, by rw [semAt_of (fun d hd => by cases hd) h, h]; exact k⟩
theorem opw_skip {P : Program} {n : Cx} {o : Oper} {a : Act} {w w' : World} {Q : Exit → Act → World → Prop} {K : Act → World → Prop} (h : (execOp a.eval o).run P w = .ok .skip w') (k : K (a.put o.dst undef) w') : opw P n o a w K Q := by
  unfold opw
  cases n.plain with
  | true => show o.wp P a w K Q; unfold Oper.wp; rw [h]; exact k
  | false => exact ⟨fun _ _ => trivial, by rw [semAt_of (fun d hd => by cases hd) h, h]; exact k⟩
theorem callsIn_of {P : Program} {n : Cx} {f : FuncId} {args : Array Value} {w : World} {R : Ending → World → Prop} (k : Nat) (h : Calls P f args w R) : CallsIn n.fence k P f args w R :=
  (callsIn_wide (n := k)).2 h
theorem opw_enter {P : Program} {n : Cx} {o : Oper} {a : Act} {w w' : World} {f : FuncId} {args : Array Value} {Q : Exit → Act → World → Prop} {K : Act → World → Prop} (h : (execOp a.eval o).run P w = .ok (.enter f args) w')
    (k : Calls P f args w' fun e w'' => ∃ v, e = .returned v ∧ K (a.put o.dst v) w'') : opw P n o a w K Q := by
  unfold opw
  cases n.plain with
  | true => show o.wp P a w K Q; unfold Oper.wp; rw [h]; exact Calls.mono k (by rintro e w'' ⟨v, rfl, hv⟩; exact hv)
  | false => exact ⟨fun _ _ => trivial, by rw [semAt_of (fun d hd => by cases hd) h, h]; exact ⟨fun hd => (by cases hd), CallsIn.mono (callsIn_of _ k) (by rintro e w'' ⟨v, rfl, hv⟩; exact hv)⟩⟩

def wpK (P : Program) (n : Cx) (ops : Array Oper) (Q : Exit → Act → World → Prop) (K : Act → World → Prop) : List Oper → Act → World → Prop
  | [], a, w => K a w
  | o :: rest, a, w => if Region.wanted o (yielded ops a.tmps) then opw P n o a w (wpK P n ops Q K rest) Q else wpK P n ops Q K rest (a.put o.dst undef) w

theorem wpK_ops {P : Program} {n : Cx} {ops : Array Oper} {Q : Exit → Act → World → Prop} (hp : n.plain = false) : ∀ (os : List Oper) (k : Nat), (∀ i, ops[k + i]? = os[i]?) → ∀ a w, wpK P n ops Q (Q .normal) os a w → wpOpsIn n.fence 0 P ops Q (List.range' k os.length) a w
  | [], k, _, a, w, h => h
  | o :: os, k, hk, a, w, h => by
    have h0 : ops[k]? = some o := by simpa using hk 0
    simp only [List.length_cons, List.range'_succ]
    unfold wpOpsIn
    rw [h0]
    simp only []
    have ih := wpK_ops (P := P) (Q := Q) hp os (k + 1) (fun i => by have := hk (i + 1); simpa [Nat.add_assoc, Nat.add_comm 1] using this)
    unfold wpK at h
    split
    · rename_i hw
      rw [if_pos hw] at h
      unfold opw at h
      rw [hp] at h
      exact Oper.wpIn_mono (fun a w => ih a w) h
    · rename_i hw
      rw [if_neg hw] at h
      exact ⟨fun _ _ => trivial, ih _ _ h⟩
theorem wpK_region {P : Program} {n : Cx} {ol : List Oper} {id : Nat} {Q : Exit → Act → World → Prop} {a : Act} {w : World} (hp : n.plain = false) (h : wpK P n ol.toArray Q (Q .normal) ol a w) : (Code.region id ol.toArray false).wpIn n.fence 0 P Q a w := by
  refine wpIn_region ?_
  have := wpK_ops hp ol 0 (by simp) a w h
  simpa [List.range_eq_range'] using this

def WL (P : Program) (n : Cx) (ops : Array Oper) (Q : Exit → Act → World → Prop) (K : Act → World → Prop) (os : List Oper) (l : List (Nat × Value)) (w : World) : Prop :=
  ∀ a, Has n l a → wpK P n ops Q K os a w

/-- a call that returns, with a value and in a world of which R is known -/
def Rets (P : Program) (f : FuncId) (args : Array Value) (w : World) (R : Value → World → Prop) : Prop := Calls P f args w fun e w' => ∃ v, e = .returned v ∧ R v w'

theorem Rets.mono {P : Program} {f : FuncId} {args : Array Value} {w : World} {R R' : Value → World → Prop} (h : Rets P f args w R) (hr : ∀ v w', R v w' → R' v w') : Rets P f args w R' :=
  Calls.mono h fun _ w' ⟨v, he, hv⟩ => ⟨v, he, hr v w' hv⟩

def RR (R : Value → World → Prop) : Ending → World → Prop := fun e w' => ∃ v, e = .returned v ∧ R v w'

section
variable {P : Program} {n : Cx} {l l' : List (Nat × Value)} {w w' : World} {Q : Exit → Act → World → Prop} {K : Act → World → Prop}

theorem WP.enter {k : Nat} {f : FuncId} {fn : Func} {c : Code} {vs : List Value} {R : Value → World → Prop} (hf : P.funcs[f]? = some fn) (hb : fn.body = some c) (hn : fn.ntmps = k) (hle : Nat.ble vs.length k = true)
    (h : WP P (.bare k) c (enum 0 vs) w (bodyPost P fn (RR R))) : Rets P f vs.toArray w R := by
  refine calls_of_wp hf hb (wpIn_wide.1 (h _ ⟨rfl, ?_, fun i v hv => ?_⟩))
  · have := Nat.le_of_ble_eq_true hle
    simp [hn]; omega
  · obtain ⟨_, h2⟩ := look_enum vs 0 i v hv
    have hi : i < vs.length := (List.getElem?_eq_some_iff.1 h2).1
    simp only [Nat.sub_zero] at h2
    have h3 := (List.getElem?_eq_some_iff.1 h2).2
    simp [Array.getElem?_append, hi, h3]

theorem WP.keep (hs : Subs l l') {c : Code} (h : WP P n c l' w Q) : WP P n c l w Q := fun a ha => h a (ha.subs hs)

theorem WP.region {ol : List Oper} {id : Nat} {y : Code} (h : WL P n ol.toArray (Exit.then (cwp P n y Q) Q) (cwp P n y Q) ol l w) (hp : n.plain = false := by rfl) : WP P n (.seq (.region id ol.toArray false) y) l w Q :=
  fun a ha => wpIn_seq (wpK_region hp (h a ha))
theorem WP.region_end {ol : List Oper} {id : Nat} (h : WL P n ol.toArray Q (Q .normal) ol l w) (hp : n.plain = false := by rfl) : WP P n (.region id ol.toArray false) l w Q :=
  fun a ha => wpK_region hp (h a ha)
theorem WL.done {ops : Array Oper} {y : Code} {Q' : Exit → Act → World → Prop} (h : WP P n y l w Q) : WL P n ops Q' (cwp P n y Q) [] l w := fun a ha => h a ha
theorem WL.done_end {ops : Array Oper} {Q' : Exit → Act → World → Prop} (h : Pst n Q .normal l w) : WL P n ops Q' (Q .normal) [] l w := fun a ha => h a ha
theorem WL.nil {ops : Array Oper} {Q' : Exit → Act → World → Prop} (h : ∀ a, Has n l a → K a w) : WL P n ops Q' K [] l w := fun a ha => h a ha
theorem WL.keep {ops : Array Oper} {os : List Oper} (hs : Subs l l') (h : WL P n ops Q K os l' w) : WL P n ops Q K os l w := fun a ha => h a (ha.subs hs)

theorem WP.cond {c : Operand} {x y z : Code} {b : Bool} (hc : evl l c = some (.bool b)) (h1 : b = true → WP P n x l w (Exit.then (cwp P n z Q) Q)) (h2 : b = false → WP P n y l w (Exit.then (cwp P n z Q) Q)) :
    WP P n (.seq (.cond c x y) z) l w Q := fun a ha => wpIn_seq (wpIn_cond_split (ha.eval hc) (fun e => h1 e a ha) (fun e => h2 e a ha))
theorem WP.cond_end {c : Operand} {x y : Code} {b : Bool} (hc : evl l c = some (.bool b)) (h1 : b = true → WP P n x l w Q) (h2 : b = false → WP P n y l w Q) :
    WP P n (.cond c x y) l w Q := fun a ha => wpIn_cond_split (ha.eval hc) (fun e => h1 e a ha) (fun e => h2 e a ha)
theorem WP.seq {x y : Code} (h : WP P n x l w (Exit.then (cwp P n y Q) Q)) : WP P n (.seq x y) l w Q := fun a ha => wpIn_seq (h a ha)
theorem WP.skip (h : Pst n Q .normal l w) : WP P n .skip l w Q := fun a ha => wpIn_skip (h a ha)
theorem WP.ret (h : Pst n Q .ret l w) : WP P n .ret l w Q := fun a ha => wpIn_ret (h a ha)
theorem WP.exit {id : Nat} (h : Pst n Q (.exit id) l w) : WP P n (.exit id) l w Q := fun a ha => wpIn_exit (h a ha)
theorem WP.block {id : Nat} {c : Code} (h : WP P n c l w (Exit.inBlock id Q)) : WP P n (.block id c) l w Q := fun a ha => wpIn_block (h a ha)

/-- what a round hands on: the relation of slots and world, at a smaller number -/
def Again (n : Cx) (J : Nat → List (Nat × Value) → World → Prop) (m : Nat) (a : Act) (w : World) : Prop := ∃ m' l, m' < m ∧ Has n l a ∧ J m' l w

theorem WP.loop {c : Code} (J : Nat → List (Nat × Value) → World → Prop) (m0 : Nat) (l0 : List (Nat × Value)) (hs : ∀ a, Has n l a → Has n l0 a) (h0 : J m0 l0 w)
    (hr : ∀ m l w', J m l w' → WP P n c l w' (Exit.then (Again n J m) Q)) : WP P n (.loop c) l w Q := fun a ha => by
  refine wpIn_loop_ghost (fun m a w => ∃ l, Has n l a ∧ J m l w) m0 ⟨l0, hs a ha, h0⟩ ?_
  rintro m a w ⟨l, h1, h2⟩
  refine wpIn_mono (hr m l w h2 a h1) ?_
  intro e a' w' hq
  cases e with
  | normal => obtain ⟨m', l', h3, h4, h5⟩ := hq; exact ⟨m', h3, l', h4, h5⟩
  | _ => exact hq

theorem Pst.again {J : Nat → List (Nat × Value) → World → Prop} {m : Nat} (m' : Nat) (l' : List (Nat × Value)) (hs : Subs l l') (hm : m' < m) (hJ : J m' l' w) : Pst n (Exit.then (Again n J m) Q) .normal l w :=
  fun a ha => ⟨m', l', hm, ha.subs hs, hJ⟩
theorem Pst.norm {y : Code} (h : WP P n y l w Q) : Pst n (Exit.then (cwp P n y Q) Q) .normal l w := fun a ha => h a ha
theorem Pst.then_exit {i : Nat} (h : Pst n Q (.exit i) l w) : Pst n (Exit.then K Q) (.exit i) l w := fun a ha => h a ha
theorem Pst.then_ret (h : Pst n Q .ret l w) : Pst n (Exit.then K Q) .ret l w := fun a ha => h a ha
theorem Pst.then_goto {i : Nat} (h : Pst n Q (.goto i) l w) : Pst n (Exit.then K Q) (.goto i) l w := fun a ha => h a ha
theorem Pst.blk_ret {id : Nat} (h : Pst n Q .ret l w) : Pst n (Exit.inBlock id Q) .ret l w := fun a ha => h a ha
theorem Pst.blk_goto {id i : Nat} (h : Pst n Q (.goto i) l w) : Pst n (Exit.inBlock id Q) (.goto i) l w := fun a ha => h a ha
theorem Pst.blk_norm {id : Nat} (h : Pst n Q .normal l w) : Pst n (Exit.inBlock id Q) .normal l w := fun a ha => h a ha
theorem Pst.blk_eq {id : Nat} (h : Pst n Q .normal l w) : Pst n (Exit.inBlock id Q) (.exit id) l w := fun a ha => by
  show (if id = id then _ else _); rw [if_pos rfl]; exact h a ha
theorem Pst.blk_ne {id i : Nat} (hne : Nat.beq i id = false) (h : Pst n Q (.exit i) l w) : Pst n (Exit.inBlock id Q) (.exit i) l w := fun a ha => by
  show (if i = id then _ else _); rw [if_neg (Nat.ne_of_beq_eq_false hne)]; exact h a ha

/-- the function's end -/
def resl (l : List (Nat × Value)) : List ResultVar → Option (List Value)
  | [] => some []
  | .tmp t :: rs => match look l t, resl l rs with
    | some v, some vs => some (v :: vs)
    | _, _ => none
  | .cell _ _ :: _ => none
def wrapRes : List Value → Value
  | [v] => v
  | vs => .tuple vs.toArray
theorem run_resl (f : ResultVar → Sem Value) (a : Act) (hf : ∀ t, f (.tmp t) = pure (a.tmps.getD t undef)) (ha : Has n l a) : ∀ (rs : List ResultVar) (vs : List Value), resl l rs = some vs → (rs.mapM f).run P w = .ok vs w
  | [], vs, h => by simp [resl] at h; subst h; rfl
  | .tmp t :: rs, vs, h => by
    unfold resl at h
    cases h1 : look l t with
    | none => simp [h1] at h
    | some v =>
      cases h2 : resl l rs with
      | none => simp [h1, h2] at h
      | some us =>
        simp [h1, h2] at h
        subst h
        have := run_resl f a hf ha rs us h2
        have hg := ha.get t v h1
        simp only [List.mapM_cons, Sem.run_bind, Sem.run_pure, Result.andThen_ok, hf, hg, this]
  | .cell _ _ :: _, vs, h => by simp [resl] at h
theorem Pst.body_ret {fn : Func} {R : Value → World → Prop} {rs : List ResultVar} {vs : List Value} {v : Value} (hr : fn.results = rs.toArray) (hv : resl l rs = some vs) (hw : wrapRes vs = v) (hR : R v w) (hm : n.marks = [] := by rfl) : Pst n (bodyPost P fn (RR R)) .ret l w := by
  intro a ha
  refine ⟨ha.defers.trans (by unfold Cx.defers; rw [hm]; rfl), v, ?_, v, rfl, hR⟩
  unfold results
  rw [hr, Sem.run_bind, List.mapM_toArray, Sem.run_map, run_resl (P := P) (w := w) _ a (fun _ => rfl) ha rs vs hv]
  simp only [Result.andThen_ok, Sem.run_pure]
  subst hw
  match vs with
  | [] => simp [wrapRes]
  | [v] => simp [wrapRes]
  | u :: v :: vs => simp [wrapRes]
theorem Pst.body_norm {fn : Func} {R : Value → World → Prop} (h : Pst n (bodyPost P fn (RR R)) .ret l w) : Pst n (bodyPost P fn (RR R)) .normal l w := h
end
end Go.Proofs.YtlnjmkmhmbijmaaGreat
