/- Texts that the statement needs, with short names. -/
import Derived.WalkKit
import Derived.WalkSpells
import Derived.WalkLawsBesides
import Derived.Deep.Quiet
import Derived.Deep.LoopGhost
import Derived.Sort.LoopGhostIn
import Derived.RangeFuncLeaves
import Derived.OrdersIn
import Derived.Deep.AppendLies
import Derived.Lib.SliceRun
import Derived.Maps.AppendAt
set_option linter.all false
namespace Go.Proofs.YtjcklpooaaaglaaGreat
abbrev an3 := Option Addr
theorem Y {α : Sort _} {a : α} : a = a := rfl
def an4 := @Bool.or_eq_true
def an5 := @Bool.or_eq_false_iff
def an6 := @Bool.and_eq_true
def an7 := @Bool.and_eq_false_imp
def an8 := @Bool.not_eq_true'
def an9 := @Bool.not_eq_false'
def aoa := @decide_eq_true_eq
def aob := @decide_eq_false_iff_not
open Go.RowKit
def InI64 (x : Int) : Prop := -9223372036854775808 ≤ x ∧ x ≤ 9223372036854775807
def TW (x : Int) : Prop := 0 ≤ x ∧ x ≤ 4294967295
structure Ext (w w' : World) : Prop where
  os : w'.os = w.os
  tape : w'.tape = w.tape
  output : w'.output = w.output
  size : w.heap.size ≤ w'.heap.size
  block : ∀ k, k < w.heap.size → w'.heap[k]? = w.heap[k]?
  drawn : w.drawn ≤ w'.drawn
structure Mod (g : Nat) (w w' : World) : Prop where
  os : w'.os = w.os
  tape : w'.tape = w.tape
  output : w'.output = w.output
  size : w.heap.size ≤ w'.heap.size
  block : ∀ k, k < w.heap.size → k ≠ g → w'.heap[k]? = w.heap[k]?
  drawn : w.drawn ≤ w'.drawn
structure yw (w w' : World) (row : Option Nat) : Prop where
  os : w'.os = w.os
  tape : w'.tape = w.tape
  output : w'.output = w.output
  size : w.heap.size ≤ w'.heap.size
  block : ∀ k, k < w.heap.size → some k ≠ row → w'.heap[k]? = w.heap[k]?
  drawn : w.drawn ≤ w'.drawn
theorem Am {α : Type} : ∀ (x : Ask α) (w : World), w.drawn ≤ (w.ask x).2.drawn
  | .done a, w => Nat.le_refl _
  | .ask what range k, w => by
    unfold World.ask
    simp only
    split
    · exact Am (k 0) w
    · exact Nat.le_trans (Nat.le_succ _) (Am (k _) { w with drawn := w.drawn + 1 })
theorem Q9 (w : World) (c : Sys) : w.drawn ≤ (w.sys c).2.drawn := by
  have h := Am (Kernel.perform c w.os) w
  unfold World.sys
  split
  · exact Nat.le_refl _
  · rename_i e; rw [e] at h; exact h
theorem Rb {p : Program} {w w' : World} {a : Addr} {v : Value} {at' : Bool} {l : List Addr} (h : w.farStore p a v at' = .ok (w', l)) : w'.drawn = w.drawn := by
  unfold World.farStore at h
  split at h
  · split at h
    · rename_i r hr
      cases h
      unfold World.viewStore at hr
      simp only [bind, Except.bind, pure, Except.pure, throw, throwThe, MonadExceptOf.throw] at hr
      repeat' (split at hr)
      all_goals first | (cases hr; rfl) | cases hr
    · cases h
  · cases h
theorem Rf {α : Type} {P : Program} : ∀ (m : Sem α) (w : World) (a : α) (w' : World), m.run P w = .ok a w' → w.drawn ≤ w'.drawn := by
  intro m
  induction m with
  | pure a => intro w b w' h; cases h; exact Nat.le_refl _
  | load m a k ih =>
    intro w b w' h; unfold Sem.run at h
    split at h
    · exact ih _ _ _ _ h
    · split at h
      · exact ih _ _ _ _ h
      · cases h
  | store m a v k ih =>
    intro w b w' h
    cases v <;> simp only [Sem.run] at h
    all_goals first
      | (cases h; done)
      | (split at h
         · split at h
           · cases h
           · have := ih _ _ _ h; exact this
         · split at h
           · rename_i hf; have := ih _ _ _ h; rw [Rb hf] at this; exact this
           · cases h)
  | new o k ih => intro w b w' h; unfold Sem.run at h; have := ih _ _ _ _ h; exact this
  | shape r k ih => intro w b w' h; unfold Sem.run at h; exact ih _ _ _ _ h
  | freeze a n k ih =>
    intro w b w' h; unfold Sem.run at h
    have := ih _ _ _ h
    unfold World.freeze at this
    split at this <;> exact this
  | frozen a k ih => intro w b w' h; unfold Sem.run at h; exact ih _ _ _ _ h
  | getObj r k ih =>
    intro w b w' h; unfold Sem.run at h
    split at h
    · cases h
    · exact ih _ _ _ _ h
    · cases h
  | setObj r o k ih =>
    intro w b w' h; unfold Sem.run at h
    split at h
    · cases h
    · have := ih _ _ _ h; exact this
    · cases h
  | choose q k ih =>
    intro w b w' h; unfold Sem.run at h
    split at h
    · exact ih _ _ _ _ h
    · have := ih _ _ _ _ h; exact Nat.le_trans (Nat.le_succ _) this
  | sys c k ih => intro w b w' h; unfold Sem.run at h; exact Nat.le_trans (Q9 w c) (ih _ _ _ _ h)
  | program k ih => intro w b w' h; unfold Sem.run at h; exact ih _ _ _ _ h
  | mark m k ih => intro w b w' h; unfold Sem.run at h; exact ih _ _ _ h
  | halt e => intro w b w' h; cases h
section
variable {a b c w w' : World} {g : Nat}
theorem yw.of {w w' : World} {row : Option Nat} (h : w.grownBy w' row) (hd : w.drawn ≤ w'.drawn) : yw w w' row := ⟨h.os, h.tape, h.output, h.size, fun k hk hn => h.block k hk hn, hd⟩
theorem Ext.refl (w : World) : Ext w w := ⟨rfl, rfl, rfl, Nat.le_refl _, fun _ _ => rfl, Nat.le_refl _⟩
theorem Ext.trans (h : Ext a b) (k : Ext b c) : Ext a c :=
  ⟨k.os.trans h.os, k.tape.trans h.tape, k.output.trans h.output, Nat.le_trans h.size k.size, fun i hi => (k.block i (Nat.lt_of_lt_of_le hi h.size)).trans (h.block i hi), Nat.le_trans h.drawn k.drawn⟩
theorem Ext.mod (h : Ext a b) (k : Mod g b c) (hg : a.heap.size ≤ g) : Ext a c :=
  ⟨k.os.trans h.os, k.tape.trans h.tape, k.output.trans h.output, Nat.le_trans h.size k.size, fun i hi => (k.block i (Nat.lt_of_lt_of_le hi h.size) (by omega)).trans (h.block i hi), Nat.le_trans h.drawn k.drawn⟩
theorem Ext.drew (h : Ext a b) : Ext a b.drew := ⟨h.os, h.tape, h.output, h.size, h.block, Nat.le_succ_of_le h.drawn⟩
theorem Ext.alloc (w : World) (o : Obj) : Ext w (w.alloc o) := ⟨rfl, rfl, rfl, by simp, fun k hk => Below.heap_alloc w o k hk, Nat.le_refl _⟩
theorem Mod.setCell (w : World) (p : Addr) (u : Value) : Mod p.block w (w.setCell p u) :=
  ⟨rfl, rfl, rfl, by simp [World.setCell], fun k _ hn => Below.heap_setCell w p u k hn, Nat.le_refl _⟩
theorem Mod.kQ {row : Option Nat} (h : yw w w' row) (hr : ∀ k, row = some k → k = g) : Mod g w w' :=
  ⟨h.os, h.tape, h.output, h.size, fun k hk hn => h.block k hk (fun e => hn (hr k e.symm)), h.drawn⟩
theorem Ext.kQ {row : Option Nat} (h : yw w w' row) (hr : ∀ k, row = some k → w.heap.size ≤ k) : Ext w w' :=
  ⟨h.os, h.tape, h.output, h.size, fun k hk => h.block k hk (fun e => by have := hr k e.symm; omega), h.drawn⟩
theorem Ext.below (h : Ext w w') : Below w.heap.size w w' := ⟨h.os, h.tape, h.output, h.size, h.block⟩
theorem Ext.cell {p : Addr} {v : Value} (h : Ext w w') (hc : w.cell? p = some v) : w'.cell? p = some v :=
  (World.cell?_of_block (w := w) (h.block p.block (World.block_lt_of_cell? w p hc))).trans hc
end
def Bx (w : World) (g : Nat) (t : TypeId) (cs : List Value) : Prop := w.heap[g]? = some (.cells cs.toArray t (0, 0))
section
variable {w w' : World} {g g' : Nat} {t : TypeId} {cs : List Value}
theorem Bx.lt (h : Bx w g t cs) : g < w.heap.size := by
  rcases Nat.lt_or_ge g w.heap.size with hlt | hge
  · exact hlt
  · unfold Bx at h; rw [Array.getElem?_eq_none hge] at h; cases h
theorem Bx.ext (h : Bx w g t cs) (e : Ext w w') : Bx w' g t cs := (e.block g h.lt).trans h
theorem Bx.mod (h : Bx w g t cs) (m : Mod g' w w') (hn : g ≠ g') : Bx w' g t cs := (m.block g h.lt hn).trans h
theorem Bx.cell (h : Bx w g t cs) (i : Nat) : w.cell? ⟨g, i, none⟩ = cs[i]? := by
  rw [cell_of_row w g i cs.toArray t (0, 0) h]; simp
theorem Bx.frozen (h : Bx w g t cs) (i : Nat) : w.frozen? ⟨g, i, none⟩ = false := by
  unfold Bx at h
  simp [World.frozen?, h]
theorem Bx.new (w : World) (t : TypeId) (cs : List Value) : Bx (w.alloc (.cells cs.toArray t)) w.heap.size t cs := heap_alloc_new w _
theorem Bx.ahL (h : Bx w g t cs) (i : Nat) (u : Value) : Bx (w.setCell ⟨g, i, none⟩ u) g t (cs.set i u) := by
  unfold Bx at h ⊢
  simp [World.setCell, Array.getElem?_modify, h]
end
structure Ty (α : Type) where
  k : Nat
  pos : 0 < k
  R : (S : Nat → Prop) → World → α → List Value → Prop
  len : ∀ {S w x cs}, R S w x cs → cs.length = k
  one : ∀ {S w x cs}, R S w x cs → ∀ u ∈ cs, u.oneCell' = true
  keep : ∀ {S : Nat → Prop} {w w' : World} {x cs}, (∀ g, S g → g < w.heap.size → w'.heap[g]? = w.heap[g]?) → R S w x cs → R S w' x cs
  sub : ∀ {S S' : Nat → Prop} {w x cs}, (∀ b, S b → S' b) → R S w x cs → R S' w x cs
  bd : ∀ {S : Nat → Prop} {w x cs}, R S w x cs → R (fun g => S g ∧ g < w.heap.size) w x cs
def Ty.flat {α : Type} (k : Nat) (enc : α → List Value) (pos : 0 < k) (hl : ∀ x, (enc x).length = k) (h1 : ∀ x, ∀ u ∈ enc x, u.oneCell' = true) : Ty α where
  k := k
  pos := pos
  R := fun _ _ x cs => cs = enc x
  len := fun h => by rw [h, hl]
  one := fun h => by rw [h]; exact h1 _
  keep := fun _ h => h
  sub := fun _ h => h
  bd := fun h => h
theorem Ty.ext {α : Type} (τ : Ty α) {S w w' x cs} (e : Ext w w') (h : τ.R S w x cs) : τ.R S w' x cs := τ.keep (fun g _ hg => e.block g hg) h
theorem Ty.mod {α : Type} (τ : Ty α) {S w w' g x cs} (m : Mod g w w') (hg : ¬ S g) (h : τ.R S w x cs) : τ.R S w' x cs :=
  τ.keep (fun b hb hlt => m.block b hlt (fun e => hg (e ▸ hb))) h
class Flat {α : Type} (τ : Ty α) : Prop where
  h : ∀ {S S' : Nat → Prop} {w w' : World} {x : α} {cs : List Value}, τ.R S w x cs → τ.R S' w' x cs
instance {α : Type} {k : Nat} {enc : α → List Value} {pos : 0 < k} {hl : ∀ x, (enc x).length = k} {h1 : ∀ x, ∀ u ∈ enc x, u.oneCell' = true} : Flat (Ty.flat k enc pos hl h1) := ⟨fun h => h⟩
def vV (A : an3) : Addr := A.getD ⟨0, 0, none⟩
structure Sl {α : Type} (τ : Ty α) (S : Nat → Prop) (w : World) (A : an3) (c : Nat) (xs : List α) : Prop where
  cap : xs.length ≤ c
  max : c ≤ maxLen
  nil : A = none → c = 0
  rows : ∀ (i : Nat) (x : α), xs[i]? = some x → S (vV A).block ∧ ∃ cs, τ.R S w x cs ∧ ∀ j u, cs[j]? = some u → w.cell? ((vV A).add (i * τ.k + j)) = some u
theorem pU (a : Addr) (n : Nat) : (a.add n).block = a.block := by unfold Addr.add; split <;> rfl
theorem bJ (a : Addr) (i j : Nat) : (a.add i).add j = a.add (i + j) := by
  unfold Addr.add
  by_cases hi : i = 0 <;> by_cases hj : j = 0 <;> simp [hi, hj, Nat.add_assoc]
section
variable {α : Type} {τ : Ty α} {S S' : Nat → Prop} {w w' : World} {A : an3} {c g : Nat} {xs : List α}
theorem Sl.none_ (τ : Ty α) (S : Nat → Prop) (w : World) : Sl τ S w none 0 [] :=
  ⟨by simp, by simp [maxLen], fun _ => rfl, fun i x h => by simp at h⟩
theorem Sl.ext (h : Sl τ S w A c xs) (e : Ext w w') : Sl τ S w' A c xs :=
  ⟨h.cap, h.max, h.nil, fun i x hx => by
    obtain ⟨h1, cs, h2, h3⟩ := h.rows i x hx
    exact ⟨h1, cs, τ.ext e h2, fun j u hu => e.cell (h3 j u hu)⟩⟩
theorem Sl.keep (h : Sl τ S w A c xs) (m : ∀ g, S g → g < w.heap.size → w'.heap[g]? = w.heap[g]?) : Sl τ S w' A c xs :=
  ⟨h.cap, h.max, h.nil, fun i x hx => by
    obtain ⟨h1, cs, h2, h3⟩ := h.rows i x hx
    refine ⟨h1, cs, τ.keep m h2, fun j u hu => ?_⟩
    have h4 := h3 j u hu
    have h5 := World.block_lt_of_cell? w _ h4
    rw [pU] at h5
    exact (World.cell?_of_block (w := w) (by rw [pU]; exact m _ h1 h5)).trans h4⟩
theorem Sl.sub (h : Sl τ S w A c xs) (hs : ∀ b, S b → S' b) : Sl τ S' w A c xs :=
  ⟨h.cap, h.max, h.nil, fun i x hx => by
    obtain ⟨h1, cs, h2, h3⟩ := h.rows i x hx
    exact ⟨hs _ h1, cs, τ.sub hs h2, h3⟩⟩
theorem Sl.aN (h : Sl τ S w A c xs) : xs.length ≤ 9223372036854775807 := by
  have h1 := h.cap
  have h2 := h.max
  simp only [maxLen] at h2
  omega
theorem Sl.any (h : Sl τ S w A c xs) : Sl τ (fun _ => True) w A c xs := h.sub fun _ _ => trivial
theorem Sl.some_ (h : Sl τ S w A c xs) {i : Nat} {x : α} (hx : xs[i]? = some x) : A = some (vV A) := by
  cases hA : A with
  | none =>
    have h1 := h.nil hA
    have h2 := h.cap
    have h3 : i < xs.length := (List.getElem?_eq_some_iff.1 hx).1
    omega
  | some a => rfl
theorem Sl.lt (h : Sl τ S w A c xs) {i : Nat} {x : α} (hx : xs[i]? = some x) : (vV A).block < w.heap.size := by
  obtain ⟨_, cs, h2, h3⟩ := h.rows i x hx
  have hl := τ.len h2
  have hp := τ.pos
  have h0 : cs[0]? = some (cs[0]'(by omega)) := List.getElem?_eq_getElem _
  have := World.block_lt_of_cell? w _ (h3 0 _ h0)
  rwa [pU] at this
theorem Sl.bd (h : Sl τ S w A c xs) : Sl τ (fun g => S g ∧ g < w.heap.size) w A c xs :=
  ⟨h.cap, h.max, h.nil, fun i x hx => by
    obtain ⟨h1, cs, h2, h3⟩ := h.rows i x hx
    exact ⟨⟨h1, h.lt hx⟩, cs, τ.bd h2, h3⟩⟩
theorem Sl.cells (h : Sl τ S w A c xs) : ∃ css : List (List Value), css.length = xs.length ∧ (∀ (i : Nat) (x : α), xs[i]? = some x → ∃ cs, css[i]? = some cs ∧ τ.R S w x cs) ∧
    css.flatten.length = xs.length * τ.k ∧ (∀ u ∈ css.flatten, u.oneCell' = true) ∧ ∀ j u, css.flatten[j]? = some u → w.cell? ((vV A).add j) = some u := by
  have key : ∀ (ys : List α) (o : Nat), (∀ (i : Nat) (x : α), ys[i]? = some x → ∃ cs, τ.R S w x cs ∧ ∀ j u, cs[j]? = some u → w.cell? ((vV A).add ((o + i) * τ.k + j)) = some u) →
      ∃ css : List (List Value), css.length = ys.length ∧ (∀ (i : Nat) (x : α), ys[i]? = some x → ∃ cs, css[i]? = some cs ∧ τ.R S w x cs) ∧
        css.flatten.length = ys.length * τ.k ∧ (∀ u ∈ css.flatten, u.oneCell' = true) ∧ ∀ j u, css.flatten[j]? = some u → w.cell? ((vV A).add (o * τ.k + j)) = some u := by
    intro ys
    induction ys with
    | nil => intro o _; exact ⟨[], rfl, fun i x hx => by simp at hx, by simp, by simp, fun j u hu => by simp at hu⟩
    | cons y ys ih =>
      intro o hy
      obtain ⟨cs, hR, hc⟩ := hy 0 y rfl
      obtain ⟨css, h1, h2, h3, h4, h5⟩ := ih (o + 1) (fun i x hx => by
        obtain ⟨cs, hR, hc⟩ := hy (i + 1) x (by simpa using hx)
        exact ⟨cs, hR, fun j u hu => by have := hc j u hu; rwa [show o + 1 + i = o + (i + 1) from by omega]⟩)
      have hl := τ.len hR
      refine ⟨cs :: css, by simp [h1], ?_, ?_, ?_, ?_⟩
      · intro i x hx
        cases i with
        | zero => simp at hx; subst hx; exact ⟨cs, rfl, hR⟩
        | succ i => obtain ⟨cs', h6, h7⟩ := h2 i x (by simpa using hx); exact ⟨cs', by simpa using h6, h7⟩
      · simp only [List.flatten_cons, List.length_append, hl, h3, List.length_cons, Nat.add_mul, Nat.one_mul]; omega
      · intro u hu
        rw [List.flatten_cons] at hu
        rcases List.mem_append.1 hu with h | h
        · exact τ.one hR u h
        · exact h4 u h
      · intro j u hu
        rw [List.flatten_cons] at hu
        by_cases hj : j < cs.length
        · rw [List.getElem?_append_left hj] at hu
          have := hc j u hu
          simpa using this
        · rw [List.getElem?_append_right (by omega)] at hu
          have := h5 _ u hu
          rw [show (o + 1) * τ.k + (j - cs.length) = o * τ.k + j from by rw [Nat.add_mul, Nat.one_mul]; omega] at this
          exact this
  obtain ⟨css, h1, h2, h3, h4, h5⟩ := key xs 0 (fun i x hx => by
    obtain ⟨_, cs, hR, hc⟩ := h.rows i x hx
    exact ⟨cs, hR, fun j u hu => by have := hc j u hu; simpa using this⟩)
  exact ⟨css, h1, h2, h3, h4, fun j u hu => by have := h5 j u hu; simpa using this⟩
end
def Own {α : Type} (τ : Ty α) (e : TypeId) (lo : Nat) (S : Nat → Prop) (w : World) (A : an3) (c : Nat) (xs : List α) : Prop :=
  ∃ css : List (List Value), css.length = xs.length ∧ (∀ (i : Nat) (x : α), xs[i]? = some x → ∃ cs, css[i]? = some cs ∧ τ.R S w x cs) ∧ w.ownsRow lo e τ.k (.slice A xs.length c) xs.length css.flatten
def blk (A : an3) : Option Nat := A.map (·.block)
section
variable {α : Type} {τ : Ty α} {e : TypeId} {lo lo' : Nat} {S S' : Nat → Prop} {w w' : World} {A : an3} {c g : Nat} {xs : List α}
theorem Own.none_ (τ : Ty α) (e : TypeId) (lo : Nat) (S : Nat → Prop) (w : World) : Own τ e lo S w none 0 [] :=
  ⟨[], rfl, fun i x h => by simp at h, World.ownsRow_nil w lo e τ.k⟩
theorem za {k : Nat} : ∀ (css : List (List Value)) (_ : ∀ cs ∈ css, cs.length = k) (i : Nat) (cs : List Value) (_ : css[i]? = some cs) (j : Nat) (u : Value), cs[j]? = some u → css.flatten[i * k + j]? = some u
  | [], _, i, cs, h, _, _, _ => by simp at h
  | c0 :: css, hk, i, cs, h, j, u, hu => by
    have h0 : c0.length = k := hk c0 (by simp)
    cases i with
    | zero =>
      simp at h; subst h
      have : j < c0.length := (List.getElem?_eq_some_iff.1 hu).1
      simp only [List.flatten_cons, Nat.zero_mul, Nat.zero_add]
      rw [List.getElem?_append_left this]; exact hu
    | succ i =>
      simp only [List.flatten_cons]
      rw [List.getElem?_append_right (by rw [h0, Nat.add_mul, Nat.one_mul]; omega), h0, show (i + 1) * k + j - k = i * k + j from by rw [Nat.add_mul, Nat.one_mul]; omega]
      exact za css (fun cs hcs => hk cs (by simp [hcs])) i cs (by simpa using h) j u hu
theorem CW {css : List (List Value)} (h1 : css.length = xs.length) (h2 : ∀ (i : Nat) (x : α), xs[i]? = some x → ∃ cs, css[i]? = some cs ∧ τ.R S w x cs) : ∀ cs ∈ css, cs.length = τ.k := by
  intro cs hcs
  obtain ⟨i, hi, rfl⟩ := List.getElem_of_mem hcs
  obtain ⟨cs', h3, h4⟩ := h2 i (xs[i]'(by omega)) (List.getElem?_eq_getElem _)
  rw [List.getElem?_eq_getElem hi] at h3
  cases h3
  exact τ.len h4
theorem Own.slb (h : Own τ e lo S w A c xs) (h1 : ∀ b, blk A = some b → S' b) (h2 : ∀ b, S b → S' b) : Sl τ S' w A c xs := by
  obtain ⟨css, hl, hR, hown⟩ := h
  have hk := CW hl hR
  rcases hown.2 with ⟨hv, hn⟩ | ⟨g, cap, cur, hv, hg, hh, hnc, hcm, hcs, ht⟩
  · injection hv with hA hn' hc
    have hx : xs = [] := List.eq_nil_of_length_eq_zero hn
    subst hx hA hc
    exact Sl.none_ τ S' w
  · injection hv with hA hn' hc
    subst hA hc
    refine ⟨hnc, hcm, (fun h => by cases h), fun i x hx => ?_⟩
    obtain ⟨cs, h3, h4⟩ := hR i x hx
    exact ⟨h1 _ Y, cs, τ.sub h2 h4, fun j u hu => hown.cells (g := g) Y _ _ (za css hk i cs h3 j u hu)⟩
theorem Own.sl (h : Own τ e lo S w A c xs) (h1 : ∀ b, lo ≤ b → S' b) (h2 : ∀ b, S b → S' b) : Sl τ S' w A c xs := by
  refine h.slb (fun g hg => h1 g ?_) h2
  obtain ⟨css, hl, hR, hown⟩ := h
  rcases hown.2 with ⟨hv, hn⟩ | ⟨g', cap, cur, hv, hg', _⟩
  · injection hv with hA _ _; rw [hA] at hg; simp [blk] at hg
  · injection hv with hA _ _; rw [hA] at hg; simp [blk] at hg; omega
theorem Own.IC (h : Own τ e lo S w A c xs) : ∀ g, blk A = some g → lo ≤ g ∧ g < w.heap.size := by
  obtain ⟨css, hl, hR, hown⟩ := h
  intro g hg
  refine hown.lt g ?_
  cases A with
  | none => simp [blk] at hg
  | some a => simpa [blk, Value.ownBlock] using hg
theorem Own.ext (h : Own τ e lo S w A c xs) (x : Ext w w') : Own τ e lo S w' A c xs := by
  obtain ⟨css, hl, hR, hown⟩ := h
  refine ⟨css, hl, fun i y hy => ?_, hown.kept (row := none) ⟨x.os, x.tape, x.output, x.size, fun k hk _ => x.block k hk⟩ (by cases hv : (Value.slice A xs.length c).ownBlock <;> simp)⟩
  obtain ⟨cs, h1, h2⟩ := hR i y hy
  exact ⟨cs, h1, τ.ext x h2⟩
theorem Own.mod (h : Own τ e lo S w A c xs) (m : Mod g w w') (hS : ¬ S g) (hg : blk A ≠ some g) : Own τ e lo S w' A c xs := by
  obtain ⟨css, hl, hR, hown⟩ := h
  refine ⟨css, hl, fun i y hy => ?_, hown.kept (row := some g) ⟨m.os, m.tape, m.output, m.size, fun k hk hn => m.block k hk (fun e => hn (by rw [e]))⟩ (.inr ?_)⟩
  · obtain ⟨cs, h1, h2⟩ := hR i y hy
    exact ⟨cs, h1, τ.mod m hS h2⟩
  · intro he
    apply hg
    cases A with
    | none => simp [Value.ownBlock] at he
    | some a => simpa [blk, Value.ownBlock] using he
theorem Own.keep (h : Own τ e lo S w A c xs) (m : ∀ g, blk A = some g ∨ S g → g < w.heap.size → w'.heap[g]? = w.heap[g]?) : Own τ e lo S w' A c xs := by
  obtain ⟨css, hl, hR, hown⟩ := h
  refine ⟨css, hl, fun i y hy => ?_, hown.1, ?_⟩
  · obtain ⟨cs, h1, h2⟩ := hR i y hy
    exact ⟨cs, h1, τ.keep (fun g hg => m g (.inr hg)) h2⟩
  · rcases hown.2 with h2 | ⟨g, cap, cur, hv, hg, hh, rest⟩
    · exact .inl h2
    · injection hv with hA hn hc
      refine .inr ⟨g, cap, cur, by rw [hA, hn, hc], hg, ?_, rest⟩
      have hlt : g < w.heap.size := by
        rcases Nat.lt_or_ge g w.heap.size with h | h
        · exact h
        · rw [Array.getElem?_eq_none h] at hh; cases hh
      rw [m g (.inl (by rw [hA]; rfl)) hlt]; exact hh
theorem Own.lift (h : Own τ e lo S w A c xs) (hlo : ∀ g, blk A = some g → lo' ≤ g) : Own τ e lo' S w A c xs := by
  obtain ⟨css, hl, hR, hown⟩ := h
  refine ⟨css, hl, hR, hown.1, ?_⟩
  rcases hown.2 with h2 | ⟨g, cap, cur, hv, hg, rest⟩
  · exact .inl h2
  · injection hv with hA hn hc
    exact .inr ⟨g, cap, cur, by rw [hA, hn, hc], hlo g (by rw [hA]; rfl), rest⟩
theorem Own.low (h : Own τ e lo S w A c xs) (hlo : lo' ≤ lo) (hS : ∀ b, S b → S' b) : Own τ e lo' S' w A c xs := by
  obtain ⟨css, hl, hR, hown⟩ := h
  refine ⟨css, hl, fun i y hy => ?_, hown.1, ?_⟩
  · obtain ⟨cs, h1, h2⟩ := hR i y hy
    exact ⟨cs, h1, τ.sub hS h2⟩
  · rcases hown.2 with h2 | ⟨g, cap, cur, hv, hg, rest⟩
    · exact .inl h2
    · exact .inr ⟨g, cap, cur, hv, by omega, rest⟩
end
def Fr (w : World) : Nat → Prop := fun b => w.heap.size ≤ b
def Any : Nat → Prop := fun _ => True
theorem get_some {α : Type} {xs : List α} {i : Nat} (h : i < xs.length) : ∃ x, xs[i]? = some x := ⟨xs[i], List.getElem?_eq_getElem h⟩
theorem aC {α : Type} {xs : List α} {i : Nat} {x : α} (h : xs[i]? = some x) : i < xs.length := (List.getElem?_eq_some_iff.1 h).1
theorem gJ {p : Prop} [Decidable p] (h : (!decide p) = true) : ¬ p := by simpa using h
theorem gD {p : Prop} [Decidable p] (h : (!decide p) = false) : p := by simpa using h
structure jP where
  W : Nat → Prop
  ok : (Nat → Prop) → World → Prop
  sub : ∀ {S S' : Nat → Prop} {w : World}, (∀ g, S g → S' g) → ok S w → ok S' w
  keep : ∀ {S : Nat → Prop} {w w' : World}, (∀ g, W g ∨ S g → g < w.heap.size → w'.heap[g]? = w.heap[g]?) → ok S w → ok S w'
def aQ {α : Type} (τ : Ty α) (e : TypeId) (A : an3) (c : Nat) (xs : List α) : jP where
  W := fun g => blk A = some g
  ok := fun S w => Own τ e 0 S w A c xs
  sub := fun hs h => h.low (Nat.le_refl _) hs
  keep := fun hm h => h.keep hm
def fM {α : Type} (τ : Ty α) (A : an3) (c : Nat) (xs : List α) : jP where
  W := fun _ => False
  ok := fun S w => Sl τ S w A c xs
  sub := fun hs h => h.sub hs
  keep := fun hm h => h.keep fun g hg => hm g (.inr hg)
def dG (g : Nat) (t : TypeId) (cs : List Value) : jP where
  W := fun b => b = g
  ok := fun _ w => Bx w g t cs
  sub := fun _ h => h
  keep := fun {_ w _} hm h => (hm g (.inl rfl) h.lt).trans h
def Rd (b : World) (S : Nat → Prop) (rs : List jP) (w : World) : Nat → Prop := fun g => (g < b.heap.size ∧ S g) ∨ (b.heap.size ≤ g ∧ g < w.heap.size ∧ ∀ r ∈ rs, ¬ r.W g)
structure Hp (b : World) (S : Nat → Prop) (w : World) (rs : List jP) : Prop where
  ext : Ext b w
  ok : ∀ r ∈ rs, r.ok (Rd b S rs w) w
  lo : ∀ r ∈ rs, ∀ g, r.W g → b.heap.size ≤ g ∧ g < w.heap.size
  PW : rs.Pairwise fun r s => ∀ g, r.W g → ¬ s.W g
inductive nS {α : Type} : List α → α → List α → Prop
  | h {r : α} {rs : List α} : nS (r :: rs) r rs
  | t {r q : α} {rs rest : List α} : nS rs r rest → nS (q :: rs) r (q :: rest)
section
variable {α : Type} {q0 q1 q2 q3 q4 q5 q6 q7 q8 q9 X6 Zp q12 q13 q14 q15 r : α} {rs : List α}
theorem s0 : nS (r :: rs) r rs := .h
theorem s1 : nS (q0 :: r :: rs) r (q0 :: rs) := .t .h
theorem s2 : nS (q0 :: q1 :: r :: rs) r (q0 :: q1 :: rs) := .t s1
theorem s3 : nS (q0 :: q1 :: q2 :: r :: rs) r (q0 :: q1 :: q2 :: rs) := .t s2
theorem s4 : nS (q0 :: q1 :: q2 :: q3 :: r :: rs) r (q0 :: q1 :: q2 :: q3 :: rs) := .t s3
theorem s5 : nS (q0 :: q1 :: q2 :: q3 :: q4 :: r :: rs) r (q0 :: q1 :: q2 :: q3 :: q4 :: rs) := .t s4
theorem s6 : nS (q0 :: q1 :: q2 :: q3 :: q4 :: q5 :: r :: rs) r (q0 :: q1 :: q2 :: q3 :: q4 :: q5 :: rs) := .t s5
theorem s7 : nS (q0 :: q1 :: q2 :: q3 :: q4 :: q5 :: q6 :: r :: rs) r (q0 :: q1 :: q2 :: q3 :: q4 :: q5 :: q6 :: rs) := .t s6
theorem s8 : nS (q0 :: q1 :: q2 :: q3 :: q4 :: q5 :: q6 :: q7 :: r :: rs) r (q0 :: q1 :: q2 :: q3 :: q4 :: q5 :: q6 :: q7 :: rs) := .t s7
theorem s9 : nS (q0 :: q1 :: q2 :: q3 :: q4 :: q5 :: q6 :: q7 :: q8 :: r :: rs) r (q0 :: q1 :: q2 :: q3 :: q4 :: q5 :: q6 :: q7 :: q8 :: rs) := .t s8
theorem s10 : nS (q0 :: q1 :: q2 :: q3 :: q4 :: q5 :: q6 :: q7 :: q8 :: q9 :: r :: rs) r (q0 :: q1 :: q2 :: q3 :: q4 :: q5 :: q6 :: q7 :: q8 :: q9 :: rs) := .t s9
theorem s11 : nS (q0 :: q1 :: q2 :: q3 :: q4 :: q5 :: q6 :: q7 :: q8 :: q9 :: X6 :: r :: rs) r (q0 :: q1 :: q2 :: q3 :: q4 :: q5 :: q6 :: q7 :: q8 :: q9 :: X6 :: rs) := .t s10
theorem s12 : nS (q0 :: q1 :: q2 :: q3 :: q4 :: q5 :: q6 :: q7 :: q8 :: q9 :: X6 :: Zp :: r :: rs) r (q0 :: q1 :: q2 :: q3 :: q4 :: q5 :: q6 :: q7 :: q8 :: q9 :: X6 :: Zp :: rs) := .t s11
theorem s13 : nS (q0 :: q1 :: q2 :: q3 :: q4 :: q5 :: q6 :: q7 :: q8 :: q9 :: X6 :: Zp :: q12 :: r :: rs) r (q0 :: q1 :: q2 :: q3 :: q4 :: q5 :: q6 :: q7 :: q8 :: q9 :: X6 :: Zp :: q12 :: rs) := .t s12
theorem NM : nS (q0 :: q1 :: q2 :: q3 :: q4 :: q5 :: q6 :: q7 :: q8 :: q9 :: X6 :: Zp :: q12 :: q13 :: r :: rs) r (q0 :: q1 :: q2 :: q3 :: q4 :: q5 :: q6 :: q7 :: q8 :: q9 :: X6 :: Zp :: q12 :: q13 :: rs) := .t s13
theorem s15 : nS (q0 :: q1 :: q2 :: q3 :: q4 :: q5 :: q6 :: q7 :: q8 :: q9 :: X6 :: Zp :: q12 :: q13 :: q14 :: r :: rs) r (q0 :: q1 :: q2 :: q3 :: q4 :: q5 :: q6 :: q7 :: q8 :: q9 :: X6 :: Zp :: q12 :: q13 :: q14 :: rs) := .t NM
theorem nS.perm {rest : List α} (h : nS rs r rest) : rs.Perm (r :: rest) := by
  induction h with
  | h => exact List.Perm.refl _
  | t _ ih => exact (ih.cons _).trans (List.Perm.swap _ _ _)
end
section
variable {b w w' : World} {S S' : Nat → Prop} {rs rs' rest F : List jP} {r r' : jP} {α : Type} {τ : Ty α} {e : TypeId} {A A' : an3} {c c' : Nat} {xs ys : List α}
theorem Rd.perm (h : rs.Perm rs') : ∀ g, Rd b S rs w g → Rd b S rs' w g := by
  rintro g (h1 | ⟨h1, h2, h3⟩)
  · exact .inl h1
  · exact .inr ⟨h1, h2, fun r hr => h3 r (h.mem_iff.2 hr)⟩
theorem Hp.perm (H : Hp b S w rs) (h : rs.Perm rs') : Hp b S w rs' :=
  ⟨H.ext, fun r hr => r.sub (Rd.perm h) (H.ok r (h.mem_iff.2 hr)), fun r hr => H.lo r (h.mem_iff.2 hr),
    H.PW.perm h (fun hxy g hy hx => hxy g hx hy)⟩
theorem Hp.sel (H : Hp b S w rs) (s : nS rs r rest) : Hp b S w (r :: rest) := H.perm s.perm
theorem Hp.init (w : World) (S : Nat → Prop) : Hp w S w [] := ⟨Ext.refl w, fun r hr => by simp at hr, fun r hr => by simp at hr, List.Pairwise.nil⟩
theorem Rd.grow (hw : w.heap.size ≤ w'.heap.size) : ∀ g, Rd b S rs w g → Rd b S rs w' g := by
  rintro g (h1 | ⟨h1, h2, h3⟩)
  · exact .inl h1
  · exact .inr ⟨h1, Nat.lt_of_lt_of_le h2 hw, h3⟩
theorem Hp.grow (H : Hp b S w rs) (e : Ext w w') : Hp b S w' rs :=
  ⟨H.ext.trans e, fun r hr => r.sub (Rd.grow e.size) (r.keep (fun g _ hlt => e.block g hlt) (H.ok r hr)),
    fun r hr g hg => ⟨(H.lo r hr g hg).1, Nat.lt_of_lt_of_le (H.lo r hr g hg).2 e.size⟩, H.PW⟩
theorem Hp.tail (H : Hp b S w (r :: rs)) : Hp b S w rs := by
  refine ⟨H.ext, fun q hq => q.sub ?_ (H.ok q (by simp [hq])), fun q hq => H.lo q (by simp [hq]), (List.pairwise_cons.1 H.PW).2⟩
  rintro g (h1 | ⟨h1, h2, h3⟩)
  · exact .inl h1
  · exact .inr ⟨h1, h2, fun q hq => h3 q (by simp [hq])⟩
theorem Hp.rm (H : Hp b S w rs) (s : nS rs r rest) : Hp b S w rest := (H.sel s).tail
theorem Hp.new (H : Hp b S w rs) (e : Ext w w') (hW : ∀ g, r.W g → w.heap.size ≤ g ∧ g < w'.heap.size) (hok : r.ok (Rd b S rs w) w') : Hp b S w' (r :: rs) := by
  have hsub : ∀ g, Rd b S rs w g → Rd b S (r :: rs) w' g := by
    rintro g (h1 | ⟨h1, h2, h3⟩)
    · exact .inl h1
    · refine .inr ⟨h1, Nat.lt_of_lt_of_le h2 e.size, fun q hq => ?_⟩
      rcases List.mem_cons.1 hq with rfl | hq
      · intro h; have := (hW g h).1; omega
      · exact h3 q hq
  refine ⟨H.ext.trans e, fun q hq => ?_, fun q hq g hg => ?_, List.pairwise_cons.2 ⟨fun q hq g hg hg2 => ?_, H.PW⟩⟩
  · rcases List.mem_cons.1 hq with rfl | hq
    · exact q.sub hsub hok
    · exact q.sub hsub (q.keep (fun g _ hlt => e.block g hlt) (H.ok q hq))
  · rcases List.mem_cons.1 hq with rfl | hq
    · have h1 := hW g hg; have := H.ext.size; omega
    · have h1 := H.lo q hq g hg; have := e.size; omega
  · have h1 := (hW g hg).1; have h2 := (H.lo q hq g hg2).2; omega
structure Wr (b w w' : World) (W : Nat → Prop) : Prop where
  os : w'.os = w.os
  tape : w'.tape = w.tape
  output : w'.output = w.output
  size : w.heap.size ≤ w'.heap.size
  block : ∀ k, k < w.heap.size → ¬ W k → w'.heap[k]? = w.heap[k]?
  drawn : w.drawn ≤ w'.drawn
theorem Hp.put (H : Hp b S w (r :: rs)) (m : Wr b w w' r.W) (hW : ∀ g, r'.W g → r.W g ∨ (w.heap.size ≤ g ∧ g < w'.heap.size)) (hok : r'.ok (Rd b S (r :: rs) w) w') : Hp b S w' (r' :: rs) := by
  have hd := List.pairwise_cons.1 H.PW
  have hsub : ∀ g, Rd b S (r :: rs) w g → Rd b S (r' :: rs) w' g := by
    rintro g (h1 | ⟨h1, h2, h3⟩)
    · exact .inl h1
    · refine .inr ⟨h1, Nat.lt_of_lt_of_le h2 m.size, fun q hq => ?_⟩
      rcases List.mem_cons.1 hq with rfl | hq
      · intro h
        rcases hW g h with h4 | h4
        · exact h3 r (by simp) h4
        · omega
      · exact h3 q (by simp [hq])
  refine ⟨⟨m.os.trans H.ext.os, m.tape.trans H.ext.tape, m.output.trans H.ext.output, Nat.le_trans H.ext.size m.size, fun k hk => ?_, Nat.le_trans H.ext.drawn m.drawn⟩, fun q hq => ?_, fun q hq g hg => ?_, List.pairwise_cons.2 ⟨fun q hq g hg hg2 => ?_, hd.2⟩⟩
  · refine (m.block k (Nat.lt_of_lt_of_le hk H.ext.size) fun h => ?_).trans (H.ext.block k hk)
    have := (H.lo r (by simp) k h).1; omega
  · rcases List.mem_cons.1 hq with rfl | hq
    · exact q.sub hsub hok
    · refine q.sub hsub (q.keep (fun g hg hlt => m.block g hlt fun h => ?_) (H.ok q (by simp [hq])))
      rcases hg with hg | hg
      · exact hd.1 q hq g h hg
      · rcases hg with hg | hg
        · have := (H.lo r (by simp) g h).1; omega
        · exact hg.2.2 r (by simp) h
  · rcases List.mem_cons.1 hq with rfl | hq
    · rcases hW g hg with h1 | h1
      · have := H.lo r (by simp) g h1; have := m.size; omega
      · have := H.ext.size; omega
    · have h1 := H.lo q (by simp [hq]) g hg; have := m.size; omega
  · rcases hW g hg with h1 | h1
    · exact hd.1 q hq g h1 hg2
    · have := (H.lo q (by simp [hq]) g hg2).2; omega
theorem Hp.lift (H : Hp b S w F) (h : Hp w (Rd b S F w) w' rs) : Hp b S w' (rs ++ F) := by
  have e := h.ext
  have hs1 : ∀ g, Rd w (Rd b S F w) rs w' g → Rd b S (rs ++ F) w' g := by
    rintro g (⟨h0, h1 | ⟨h1, h2, h3⟩⟩ | ⟨h1, h2, h3⟩)
    · exact .inl h1
    · refine .inr ⟨h1, Nat.lt_of_lt_of_le h2 e.size, fun q hq => ?_⟩
      rcases List.mem_append.1 hq with hq | hq
      · intro h4; have := (h.lo q hq g h4).1; omega
      · exact h3 q hq
    · refine .inr ⟨Nat.le_trans H.ext.size h1, h2, fun q hq => ?_⟩
      rcases List.mem_append.1 hq with hq | hq
      · exact h3 q hq
      · intro h4; have := (H.lo q hq g h4).2; omega
  have hs2 : ∀ g, Rd b S F w g → Rd b S (rs ++ F) w' g := by
    rintro g (h1 | ⟨h1, h2, h3⟩)
    · exact .inl h1
    · refine .inr ⟨h1, Nat.lt_of_lt_of_le h2 e.size, fun q hq => ?_⟩
      rcases List.mem_append.1 hq with hq | hq
      · intro h4; have := (h.lo q hq g h4).1; omega
      · exact h3 q hq
  refine ⟨H.ext.trans e, fun q hq => ?_, fun q hq g hg => ?_, List.pairwise_append.2 ⟨h.PW, H.PW, fun q hq p hp g hg hg2 => ?_⟩⟩
  · rcases List.mem_append.1 hq with hq | hq
    · exact q.sub hs1 (h.ok q hq)
    · exact q.sub hs2 (q.keep (fun g _ hlt => e.block g hlt) (H.ok q hq))
  · rcases List.mem_append.1 hq with hq | hq
    · have h1 := h.lo q hq g hg; have := H.ext.size; omega
    · have h1 := H.lo q hq g hg; have := e.size; omega
  · have h1 := (h.lo q hq g hg).1; have h2 := (H.lo p hp g hg2).2; omega
class nK (r : jP) : Prop where
  h : ∀ {S S' : Nat → Prop} {w : World}, r.ok S w → r.ok S' w
instance [Flat τ] : nK (aQ τ e A c xs) := ⟨fun {S S' w} h => by
  obtain ⟨css, hl, hR, hown⟩ := h
  exact ⟨css, hl, fun i y hy => by obtain ⟨cs, h1, h2⟩ := hR i y hy; exact ⟨cs, h1, Flat.h h2⟩, hown⟩⟩
instance {g : Nat} {t : TypeId} {cs : List Value} : nK (dG g t cs) := ⟨fun h => h⟩
class IE (rs : List jP) : Prop where
  h : ∀ r ∈ rs, nK r
instance : IE [] := ⟨fun r hr => by simp at hr⟩
instance [h1 : nK r] [h2 : IE rs] : IE (r :: rs) := ⟨fun q hq => by
  rcases List.mem_cons.1 hq with rfl | hq
  · exact h1
  · exact h2.h q hq⟩
theorem Hp.re [hf : IE rs] (h : Hp b S w rs) : Hp b S' w rs := ⟨h.ext, fun r hr => (hf.h r hr).h (h.ok r hr), h.lo, h.PW⟩
theorem Hp.c0 (H : Hp b S w F) {S' : Nat → Prop} (h : Hp w S' w' []) : Hp b S w' F := H.grow h.ext
theorem Hp.c1 (H : Hp b S w F) (h : Hp w (Rd b S F w) w' [r]) : Hp b S w' (r :: F) := H.lift h
theorem Hp.c2 {r1 r2 : jP} (H : Hp b S w F) (h : Hp w (Rd b S F w) w' [r1, r2]) : Hp b S w' (r1 :: r2 :: F) := H.lift h
theorem Hp.c3 {r1 r2 r3 : jP} (H : Hp b S w F) (h : Hp w (Rd b S F w) w' [r1, r2, r3]) : Hp b S w' (r1 :: r2 :: r3 :: F) := H.lift h
theorem Hp.f1 [nK r] (H : Hp b S w F) (h : Hp w S' w' [r]) : Hp b S w' (r :: F) := H.lift h.re
theorem Hp.f2 {r1 r2 : jP} [nK r1] [nK r2] (H : Hp b S w F) (h : Hp w S' w' [r1, r2]) : Hp b S w' (r1 :: r2 :: F) := H.lift h.re
theorem Hp.f3 {r1 r2 r3 : jP} [nK r1] [nK r2] [nK r3] (H : Hp b S w F) (h : Hp w S' w' [r1, r2, r3]) : Hp b S w' (r1 :: r2 :: r3 :: F) := H.lift h.re
theorem Hp.a (H : Hp b S w rs) (h : Sl τ S b A c xs) : Sl τ (Rd b S rs w) w A c xs :=
  (h.ext H.ext |>.keep (w' := w) (fun _ _ _ => rfl)) |> fun _ => ((h.bd.sub (S' := Rd b S rs w) (fun g hg => .inl ⟨hg.2, hg.1⟩)).ext H.ext)
theorem Hp.o (H : Hp b S w rs) (s : nS rs (aQ τ e A c xs) rest) : Sl τ Any w A c xs :=
  Own.sl (H.ok (aQ τ e A c xs) (s.perm.mem_iff.2 (by simp))) (fun _ _ => trivial) (fun _ _ => trivial)
theorem Hp.ow (H : Hp b S w rs) (s : nS rs (aQ τ e A c xs) rest) : Own τ e b.heap.size (Rd b S rs w) w A c xs :=
  Own.lift (lo := 0) (H.ok (aQ τ e A c xs) (s.perm.mem_iff.2 (by simp))) (fun g hg => (H.lo (aQ τ e A c xs) (s.perm.mem_iff.2 (by simp)) g hg).1)
theorem Hp.s (H : Hp b S w rs) (s : nS rs (fM τ A c xs) rest) : Sl τ (Rd b S rs w) w A c xs := H.ok (fM τ A c xs) (s.perm.mem_iff.2 (by simp))
theorem Hp.x {g : Nat} {t : TypeId} {cs : List Value} (H : Hp b S w rs) (s : nS rs (dG g t cs) rest) : Bx w g t cs := H.ok (dG g t cs) (s.perm.mem_iff.2 (by simp))
theorem Hp.push (H : Hp b S w rs) (h : Sl τ (Rd b S rs w) w A c xs) : Hp b S w (fM τ A c xs :: rs) := H.new (r := fM τ A c xs) (Ext.refl w) (fun _ h => h.elim) h
theorem Hp.nil (H : Hp b S w rs) (τ : Ty α) (e : TypeId) : Hp b S w (aQ τ e none 0 [] :: rs) :=
  H.new (r := aQ τ e none 0 []) (Ext.refl w) (fun _ h => by cases h) (Own.none_ τ e 0 _ w)
theorem Hp.fz (H : Hp b S w rs) (s : nS rs (aQ τ e A c xs) rest) : Hp b S w (fM τ A c xs :: rest) := by
  have H1 := H.sel s
  have h2 : Own τ e 0 (Rd b S (aQ τ e A c xs :: rest) w) w A c xs := H1.ok (aQ τ e A c xs) (by simp)
  refine ⟨H.ext, fun q hq => ?_, fun q hq g hg => ?_, List.pairwise_cons.2 ⟨fun q hq g hg => hg.elim, (List.pairwise_cons.1 H1.PW).2⟩⟩
  · rcases List.mem_cons.1 hq with rfl | hq
    · show Sl τ (Rd b S (fM τ A c xs :: rest) w) w A c xs
      have h3 : Own τ e 0 (Rd b S (fM τ A c xs :: rest) w) w A c xs := h2.low (Nat.le_refl _) (by
        rintro g (h | ⟨h4, h5, h6⟩)
        · exact .inl h
        · refine .inr ⟨h4, h5, fun r hr => ?_⟩
          rcases List.mem_cons.1 hr with rfl | hr
          · exact fun h => h
          · exact h6 r (by simp [hr]))
      refine h3.slb (fun g hg => ?_) (fun _ h => h)
      have h8 := H1.lo (aQ τ e A c xs) (by simp) g hg
      refine .inr ⟨h8.1, h8.2, fun r hr => ?_⟩
      rcases List.mem_cons.1 hr with rfl | hr
      · exact fun h => h
      · exact (List.pairwise_cons.1 H1.PW).1 r hr g hg
    · refine q.sub ?_ (H1.ok q (by simp [hq]))
      rintro g (h | ⟨h4, h5, h6⟩)
      · exact .inl h
      · refine .inr ⟨h4, h5, fun r hr => ?_⟩
        rcases List.mem_cons.1 hr with rfl | hr
        · exact fun h => h
        · exact h6 r (by simp [hr])
  · rcases List.mem_cons.1 hq with rfl | hq
    · exact hg.elim
    · exact H1.lo q (by simp [hq]) g hg
end
def look : List (Nat × Value) → Nat → Option Value
  | [], _ => none
  | p :: l, i => bif Nat.beq p.1 i then some p.2 else look l i
def gF (l : List (Nat × Value)) : Operand → Option Value
  | .tmp t => look l t
  | .const v => some v
  | .global g => some (.pointer (some ⟨g, 0, none⟩))
  | .func f => some (.func (.func f) #[] #[])
def yF (l : List (Nat × Value)) : List Operand → Option (List Value)
  | [] => some []
  | x :: xs => match gF l x, yF l xs with
    | some v, some vs => some (v :: vs)
    | _, _ => none
def ze (l : List (Nat × Value)) : List (Nat × Operand) → Option (List (Nat × Value))
  | [] => some []
  | x :: xs => match gF l x.2, ze l xs with
    | some v, some vs => some ((x.1, v) :: vs)
    | _, _ => none
structure Cx where
  size : Nat
  round : Option Nat
  marks : List Nat
  plain : Bool
def Cx.oV (n : Cx) : Cx := ⟨n.size, n.round, n.marks, true⟩
def Cx.fence (n : Cx) : Fence := { Fence.wide with round := n.round }
def Cx.defers (n : Cx) : List Deferred := n.marks.map fun D => { target := .collected D, args := #[] }
abbrev Cx.bare (k : Nat) : Cx := ⟨k, none, [], false⟩
theorem Cx.nA {n : Cx} (h : n.round = none) : n.fence = Fence.wide := by unfold Cx.fence; rw [h]; rfl
structure Has (n : Cx) (l : List (Nat × Value)) (a : Act) : Prop where
  defers : a.defers = n.defers
  size : a.tmps.size = n.size
  get : ∀ i v, look l i = some v → a.tmps.getD i undef = v
section
variable {n : Cx} {l l' : List (Nat × Value)} {a : Act}
theorem Has.eval (h : Has n l a) {x : Operand} {v : Value} (hx : gF l x = some v) : a.eval x = v := by
  cases x with
  | tmp t => exact h.get t v hx
  | const c => injection hx
  | global g => injection hx
  | func f => injection hx
theorem Has.J9 (h : Has n l a) : ∀ {xs : List Operand} {vs : List Value}, yF l xs = some vs → xs.map a.eval = vs
  | [], vs, hx => by simp [yF] at hx; simp [hx]
  | x :: xs, vs, hx => by
    unfold yF at hx
    cases h1 : gF l x with
    | none => simp [h1] at hx
    | some v =>
      cases h2 : yF l xs with
      | none => simp [h1, h2] at hx
      | some us =>
        simp [h1, h2] at hx
        subst hx
        simp [h.eval h1, Has.J9 h h2]
theorem Has.ze (h : Has n l a) : ∀ {xs : List (Nat × Operand)} {vs : List (Nat × Value)}, Proofs.YtjcklpooaaaglaaGreat.ze l xs = some vs → xs.map (fun p => (p.1, a.eval p.2)) = vs
  | [], vs, hx => by simp [Proofs.YtjcklpooaaaglaaGreat.ze] at hx; simp [hx]
  | x :: xs, vs, hx => by
    unfold Proofs.YtjcklpooaaaglaaGreat.ze at hx
    cases h1 : gF l x.2 with
    | none => simp [h1] at hx
    | some v =>
      cases h2 : Proofs.YtjcklpooaaaglaaGreat.ze l xs with
      | none => simp [h1, h2] at hx
      | some us =>
        simp [h1, h2] at hx
        subst hx
        simp [h.eval h1, Has.ze h h2]
theorem Has.put (h : Has n l a) {d : Nat} (hd : Nat.blt d n.size = true) (v : Value) : Has n ((d, v) :: l) (a.put (some d) v) := by
  have hd' : d < n.size := by simpa [Nat.blt_eq] using hd
  have hs := h.size
  refine ⟨h.defers, by simp [Act.put, hs], fun i u hu => ?_⟩
  unfold look at hu
  cases hb : Nat.beq d i with
  | true =>
    have : d = i := Nat.eq_of_beq_eq_true hb
    subst this
    simp [hb] at hu
    subst hu
    simp [Act.put, hs, hd']
  | false =>
    have hne : d ≠ i := Nat.ne_of_beq_eq_false hb
    simp [hb] at hu
    have := h.get i u hu
    simp only [Array.getD_eq_getD_getElem?] at this
    simpa [Act.put, Array.getElem?_setIfInBounds_ne hne] using this
def Rh (l : List (Nat × Value)) : List (Nat × Value) → Prop
  | [] => True
  | p :: r => look l p.1 = some p.2 ∧ Rh l r
theorem Rh.look : ∀ {r : List (Nat × Value)}, Rh l r → ∀ i v, look r i = some v → look l i = some v
  | [], _, i, v, h => by simp [Proofs.YtjcklpooaaaglaaGreat.look] at h
  | p :: r, hs, i, v, h => by
    unfold Proofs.YtjcklpooaaaglaaGreat.look at h
    cases hb : Nat.beq p.1 i with
    | true =>
      have : p.1 = i := Nat.eq_of_beq_eq_true hb
      simp [hb] at h
      subst this h
      exact hs.1
    | false => simp [hb] at h; exact Rh.look hs.2 i v h
theorem Has.subs (h : Has n l a) (hs : Rh l l') : Has n l' a := ⟨h.defers, h.size, fun i v hv => h.get i v (hs.look i v hv)⟩
theorem Has.set (h : Has n l a) {t : Nat} {v v' : Value} (hl : look l t = some v) (e : v = v') : Has n ((t, v') :: l) a := by
  subst e
  refine ⟨h.defers, h.size, fun i u hu => ?_⟩
  unfold look at hu
  cases hb : Nat.beq t i with
  | true =>
    have : t = i := Nat.eq_of_beq_eq_true hb
    subst this
    simp [hb] at hu
    subst hu
    exact h.get t v hl
  | false => simp [hb] at hu; exact h.get i u hu
def enum : Nat → List Value → List (Nat × Value)
  | _, [] => []
  | i, v :: vs => (i, v) :: enum (i + 1) vs
theorem xB : ∀ (vs : List Value) (k i : Nat) (v : Value), look (enum k vs) i = some v → k ≤ i ∧ vs[i - k]? = some v
  | [], k, i, v, h => by simp [enum, look] at h
  | u :: vs, k, i, v, h => by
    simp only [enum, look] at h
    cases hb : Nat.beq k i with
    | true =>
      have : k = i := Nat.eq_of_beq_eq_true hb
      subst this
      simp [hb] at h
      subst h
      simp
    | false =>
      have hne : k ≠ i := Nat.ne_of_beq_eq_false hb
      simp [hb] at h
      obtain ⟨h1, h2⟩ := xB vs (k + 1) i v h
      refine ⟨by omega, ?_⟩
      rw [show i - k = (i - (k + 1)) + 1 from by omega]
      simpa using h2
end
def WP (P : Program) (n : Cx) (c : Code) (l : List (Nat × Value)) (w : World) (Q : Exit → Act → World → Prop) : Prop := ∀ a, Has n l a → c.wpIn n.fence 0 P Q a w
def J7 (P : Program) (n : Cx) (y : Code) (Q : Exit → Act → World → Prop) : Act → World → Prop := fun a w => y.wpIn n.fence 0 P Q a w
def aA (n : Cx) (Q : Exit → Act → World → Prop) (e : Exit) (l : List (Nat × Value)) (w : World) : Prop := ∀ a, Has n l a → Q e a w
def NP (P : Program) (n : Cx) (o : Oper) (a : Act) (w : World) (next : Act → World → Prop) (Q : Exit → Act → World → Prop) : Prop :=
  match n.plain with
  | true => o.wp P a w next Q
  | false => o.wpIn n.fence 0 P a w next Q
theorem Ko {P : Program} {n : Cx} {o : Oper} {a : Act} {w : World} {Q : Exit → Act → World → Prop} {K K' : Act → World → Prop} (h : ∀ a w, K a w → K' a w) (hh : NP P n o a w K Q) : NP P n o a w K' Q := by
  unfold NP at hh ⊢
  cases hp : n.plain with
  | true => rw [hp] at hh; exact Oper.wp_mono h hh
  | false => rw [hp] at hh; exact Oper.wpIn_mono h hh
theorem Dt {P : Program} {n : Cx} {o : Oper} {a : Act} {w w' : World} {x : Next} (hx : ∀ d, x ≠ .defer d) (h : (execOp a.eval o).run P w = .ok x w') : o.semAt n.fence.round a.eval = execOp a.eval o := by
  refine Oper.semAt_eq _ _ _ fun c hc => ?_
  unfold execOp at h
  rw [hc] at h
  simp only [Sem.run_bind] at h
  cases hr : (resolve a.eval c o.type).run P w with
  | ok d w2 =>
    rw [hr] at h
    simp at h
    exact hx d h.1.symm
  | halt x w2 => rw [hr] at h; cases h
theorem Ao {P : Program} {n : Cx} {o : Oper} {a : Act} {w w' : World} {v : Value} {Q : Exit → Act → World → Prop} {K : Act → World → Prop} (h : (execOp a.eval o).run P w = .ok (.value v) w') (k : K (a.put o.dst v) w') : NP P n o a w K Q := by
  unfold NP
  cases n.plain with
  | true => show o.wp P a w K Q; unfold Oper.wp; rw [h]; exact k
  | false => exact ⟨fun _ _ => trivial, by rw [Dt (fun d hd => by cases hd) h, h]; exact k⟩
theorem TY {P : Program} {n : Cx} {o : Oper} {a : Act} {w w' : World} {Q : Exit → Act → World → Prop} {K : Act → World → Prop} (h : (execOp a.eval o).run P w = .ok .skip w') (k : K (a.put o.dst undef) w') : NP P n o a w K Q := by
  unfold NP
  cases n.plain with
  | true => show o.wp P a w K Q; unfold Oper.wp; rw [h]; exact k
  | false => exact ⟨fun _ _ => trivial, by rw [Dt (fun d hd => by cases hd) h, h]; exact k⟩
theorem NQ {P : Program} {n : Cx} {f : FuncId} {args : Array Value} {w : World} {R : Ending → World → Prop} (k : Nat) (h : Calls P f args w R) : CallsIn n.fence k P f args w R :=
  (callsIn_wide (n := k)).2 h
theorem Gm {P : Program} {n : Cx} {o : Oper} {a : Act} {w w' : World} {f : FuncId} {args : Array Value} {Q : Exit → Act → World → Prop} {K : Act → World → Prop} (h : (execOp a.eval o).run P w = .ok (.enter f args) w')
    (k : Calls P f args w' fun e w'' => ∃ v, e = .returned v ∧ K (a.put o.dst v) w'') : NP P n o a w K Q := by
  unfold NP
  cases n.plain with
  | true => show o.wp P a w K Q; unfold Oper.wp; rw [h]; exact Calls.mono k (by rintro e w'' ⟨v, rfl, hv⟩; exact hv)
  | false => exact ⟨fun _ _ => trivial, by rw [Dt (fun d hd => by cases hd) h, h]; exact ⟨fun hd => (by cases hd), CallsIn.mono (NQ _ k) (by rintro e w'' ⟨v, rfl, hv⟩; exact hv)⟩⟩
def FL (P : Program) (n : Cx) (ops : Array Oper) (Q : Exit → Act → World → Prop) (K : Act → World → Prop) : List Oper → Act → World → Prop
  | [], a, w => K a w
  | o :: rest, a, w => if Region.wanted o (yielded ops a.tmps) then NP P n o a w (FL P n ops Q K rest) Q else FL P n ops Q K rest (a.put o.dst undef) w
theorem PX {P : Program} {n : Cx} {ops : Array Oper} {Q : Exit → Act → World → Prop} (hp : n.plain = false) : ∀ (os : List Oper) (k : Nat), (∀ i, ops[k + i]? = os[i]?) → ∀ a w, FL P n ops Q (Q .normal) os a w → wpOpsIn n.fence 0 P ops Q (List.range' k os.length) a w
  | [], k, _, a, w, h => h
  | o :: os, k, hk, a, w, h => by
    have h0 : ops[k]? = some o := by simpa using hk 0
    simp only [List.length_cons, List.range'_succ]
    unfold wpOpsIn
    rw [h0]
    simp only []
    have ih := PX (P := P) (Q := Q) hp os (k + 1) (fun i => by have := hk (i + 1); simpa [Nat.add_assoc, Nat.add_comm 1] using this)
    unfold FL at h
    split
    · rename_i hw
      rw [if_pos hw] at h
      unfold NP at h
      rw [hp] at h
      exact Oper.wpIn_mono (fun a w => ih a w) h
    · rename_i hw
      rw [if_neg hw] at h
      exact ⟨fun _ _ => trivial, ih _ _ h⟩
theorem Du {P : Program} {n : Cx} {ol : List Oper} {id : Nat} {Q : Exit → Act → World → Prop} {a : Act} {w : World} (hp : n.plain = false) (h : FL P n ol.toArray Q (Q .normal) ol a w) : (Code.region id ol.toArray false).wpIn n.fence 0 P Q a w := by
  refine wpIn_region ?_
  have := PX hp ol 0 (by simp) a w h
  simpa [List.range_eq_range'] using this
def WL (P : Program) (n : Cx) (ops : Array Oper) (Q : Exit → Act → World → Prop) (K : Act → World → Prop) (os : List Oper) (l : List (Nat × Value)) (w : World) : Prop :=
  ∀ a, Has n l a → FL P n ops Q K os a w
def bY (P : Program) (f : FuncId) (args : Array Value) (w : World) (R : Value → World → Prop) : Prop := Calls P f args w fun e w' => ∃ v, e = .returned v ∧ R v w'
theorem bY.mono {P : Program} {f : FuncId} {args : Array Value} {w : World} {R R' : Value → World → Prop} (h : bY P f args w R) (hr : ∀ v w', R v w' → R' v w') : bY P f args w R' :=
  Calls.mono h fun _ w' ⟨v, he, hv⟩ => ⟨v, he, hr v w' hv⟩
def RR (R : Value → World → Prop) : Ending → World → Prop := fun e w' => ∃ v, e = .returned v ∧ R v w'
section
variable {P : Program} {n : Cx} {l l' : List (Nat × Value)} {w w' : World} {Q : Exit → Act → World → Prop} {K : Act → World → Prop}
theorem WP.enter {k : Nat} {f : FuncId} {fn : Func} {c : Code} {vs : List Value} {R : Value → World → Prop} (hf : P.funcs[f]? = some fn) (hb : fn.body = some c) (hn : fn.ntmps = k) (hle : Nat.ble vs.length k = true)
    (h : WP P (.bare k) c (enum 0 vs) w (bodyPost P fn (RR R))) : bY P f vs.toArray w R := by
  refine calls_of_wp hf hb (wpIn_wide.1 (h _ ⟨Y, ?_, fun i v hv => ?_⟩))
  · have := Nat.le_of_ble_eq_true hle
    simp [hn]; omega
  · obtain ⟨_, h2⟩ := xB vs 0 i v hv
    have hi : i < vs.length := (List.getElem?_eq_some_iff.1 h2).1
    simp only [Nat.sub_zero] at h2
    have h3 := (List.getElem?_eq_some_iff.1 h2).2
    simp [Array.getElem?_append, hi, h3]
theorem WP.region {ol : List Oper} {id : Nat} {y : Code} (h : WL P n ol.toArray (Exit.then (J7 P n y Q) Q) (J7 P n y Q) ol l w) (hp : n.plain = false := by rfl) : WP P n (.seq (.region id ol.toArray false) y) l w Q :=
  fun a ha => wpIn_seq (Du hp (h a ha))
theorem WP.NR {ol : List Oper} {id : Nat} (h : WL P n ol.toArray Q (Q .normal) ol l w) (hp : n.plain = false := by rfl) : WP P n (.region id ol.toArray false) l w Q :=
  fun a ha => Du hp (h a ha)
theorem WL.done {ops : Array Oper} {y : Code} {Q' : Exit → Act → World → Prop} (h : WP P n y l w Q) : WL P n ops Q' (J7 P n y Q) [] l w := fun a ha => h a ha
theorem WL.T9 {ops : Array Oper} {Q' : Exit → Act → World → Prop} (h : aA n Q .normal l w) : WL P n ops Q' (Q .normal) [] l w := fun a ha => h a ha
theorem WP.cond {c : Operand} {x y z : Code} {b : Bool} (hc : gF l c = some (.bool b)) (h1 : b = true → WP P n x l w (Exit.then (J7 P n z Q) Q)) (h2 : b = false → WP P n y l w (Exit.then (J7 P n z Q) Q)) :
    WP P n (.seq (.cond c x y) z) l w Q := fun a ha => wpIn_seq (wpIn_cond_split (ha.eval hc) (fun e => h1 e a ha) (fun e => h2 e a ha))
theorem WP.aG {c : Operand} {x y : Code} {b : Bool} (hc : gF l c = some (.bool b)) (h1 : b = true → WP P n x l w Q) (h2 : b = false → WP P n y l w Q) :
    WP P n (.cond c x y) l w Q := fun a ha => wpIn_cond_split (ha.eval hc) (fun e => h1 e a ha) (fun e => h2 e a ha)
theorem WP.seq {x y : Code} (h : WP P n x l w (Exit.then (J7 P n y Q) Q)) : WP P n (.seq x y) l w Q := fun a ha => wpIn_seq (h a ha)
theorem WP.skip (h : aA n Q .normal l w) : WP P n .skip l w Q := fun a ha => wpIn_skip (h a ha)
theorem WP.ret (h : aA n Q .ret l w) : WP P n .ret l w Q := fun a ha => wpIn_ret (h a ha)
theorem WP.exit {id : Nat} (h : aA n Q (.exit id) l w) : WP P n (.exit id) l w Q := fun a ha => wpIn_exit (h a ha)
theorem WP.block {id : Nat} {c : Code} (h : WP P n c l w (Exit.inBlock id Q)) : WP P n (.block id c) l w Q := fun a ha => wpIn_block (h a ha)
def Again (n : Cx) (J : Nat → List (Nat × Value) → World → Prop) (m : Nat) (a : Act) (w : World) : Prop := ∃ m' l, m' < m ∧ Has n l a ∧ J m' l w
theorem WP.loop {c : Code} (J : Nat → List (Nat × Value) → World → Prop) (m0 : Nat) (l0 : List (Nat × Value)) (hs : ∀ a, Has n l a → Has n l0 a) (h0 : J m0 l0 w)
    (hr : ∀ m l w', J m l w' → WP P n c l w' (Exit.then (Again n J m) Q)) : WP P n (.loop c) l w Q := fun a ha => by
  refine wpIn_loop_ghost (fun m a w => ∃ l, Has n l a ∧ J m l w) m0 ⟨l0, hs a ha, h0⟩ ?_
  rintro m a w ⟨l, h1, h2⟩
  refine wpIn_mono (hr m l w h2 a h1) ?_
  intro e a' w' hq
  cases e with
  | normal => obtain ⟨m', l', h3, h4, h5⟩ := hq; exact ⟨m', h3, l', h4, h5⟩
  | _ => exact hq
theorem aA.norm {y : Code} (h : WP P n y l w Q) : aA n (Exit.then (J7 P n y Q) Q) .normal l w := fun a ha => h a ha
theorem aA.aF {i : Nat} (h : aA n Q (.exit i) l w) : aA n (Exit.then K Q) (.exit i) l w := fun a ha => h a ha
theorem aA.aP (h : aA n Q .ret l w) : aA n (Exit.then K Q) .ret l w := fun a ha => h a ha
theorem aA.Ri {i : Nat} (h : aA n Q (.goto i) l w) : aA n (Exit.then K Q) (.goto i) l w := fun a ha => h a ha
theorem aA.bW {id : Nat} (h : aA n Q .ret l w) : aA n (Exit.inBlock id Q) .ret l w := fun a ha => h a ha
theorem aA.aS {id : Nat} (h : aA n Q .normal l w) : aA n (Exit.inBlock id Q) .normal l w := fun a ha => h a ha
theorem aA.bS {id : Nat} (h : aA n Q .normal l w) : aA n (Exit.inBlock id Q) (.exit id) l w := fun a ha => by
  show (if id = id then _ else _); rw [if_pos rfl]; exact h a ha
theorem aA.sj {id i : Nat} (hne : Nat.beq i id = false) (h : aA n Q (.exit i) l w) : aA n (Exit.inBlock id Q) (.exit i) l w := fun a ha => by
  show (if i = id then _ else _); rw [if_neg (Nat.ne_of_beq_eq_false hne)]; exact h a ha
def NS (l : List (Nat × Value)) : List ResultVar → Option (List Value)
  | [] => some []
  | .tmp t :: rs => match look l t, NS l rs with
    | some v, some vs => some (v :: vs)
    | _, _ => none
  | .cell _ _ :: _ => none
def nT : List Value → Value
  | [v] => v
  | vs => .tuple vs.toArray
theorem Kq (f : ResultVar → Sem Value) (a : Act) (hf : ∀ t, f (.tmp t) = pure (a.tmps.getD t undef)) (ha : Has n l a) : ∀ (rs : List ResultVar) (vs : List Value), NS l rs = some vs → (rs.mapM f).run P w = .ok vs w
  | [], vs, h => by simp [NS] at h; subst h; rfl
  | .tmp t :: rs, vs, h => by
    unfold NS at h
    cases h1 : look l t with
    | none => simp [h1] at h
    | some v =>
      cases h2 : NS l rs with
      | none => simp [h1, h2] at h
      | some us =>
        simp [h1, h2] at h
        subst h
        have := Kq f a hf ha rs us h2
        have hg := ha.get t v h1
        simp only [List.mapM_cons, Sem.run_bind, Sem.run_pure, Result.andThen_ok, hf, hg, this]
  | .cell _ _ :: _, vs, h => by simp [NS] at h
theorem aA.aD {fn : Func} {R : Value → World → Prop} {rs : List ResultVar} {vs : List Value} {v : Value} (hr : fn.results = rs.toArray) (hv : NS l rs = some vs) (hw : nT vs = v) (hR : R v w) (hm : n.marks = [] := by rfl) : aA n (bodyPost P fn (RR R)) .ret l w := by
  intro a ha
  refine ⟨ha.defers.trans (by unfold Cx.defers; rw [hm]; rfl), v, ?_, v, rfl, hR⟩
  unfold results
  rw [hr, Sem.run_bind, List.mapM_toArray, Sem.run_map, Kq (P := P) (w := w) _ a (fun _ => rfl) ha rs vs hv]
  simp only [Result.andThen_ok, Sem.run_pure]
  subst hw
  match vs with
  | [] => simp [nT]
  | [v] => simp [nT]
  | u :: v :: vs => simp [nT]
theorem aA.nL {fn : Func} {R : Value → World → Prop} (h : aA n (bodyPost P fn (RR R)) .ret l w) : aA n (bodyPost P fn (RR R)) .normal l w := h
end
end Go.Proofs.YtjcklpooaaaglaaGreat
set_option linter.all false
namespace Go.Proofs.YtjcklpooaaaglaaGreat
open Go.RowKit
def Ev (P : Program) (n : Cx) (l : List (Nat × Value)) (w : World) (op : Op) (v : Value) : Prop :=
  ∀ (o : Oper) (a : Act) (w' : World), o.op = op → Has n l a → Ext w w' → (execOp a.eval o).run P w' = .ok (.value v) w'
def guardOf (ops : Array Oper) (l : List (Nat × Value)) (j : Nat) : Option Value := ((ops[j]?).bind (·.dst)).bind (look l)
def unlike (aJ : Bool) : Value → Bool
  | .bool b => b != aJ
  | _ => true
section
variable {P : Program} {n : Cx} {l l' : List (Nat × Value)} {w w' : World} {Q : Exit → Act → World → Prop} {K : Act → World → Prop} {ops : Array Oper} {os : List Oper}
theorem qA {a : Act} (ha : Has n l a) {j : Nat} {v : Value} (h : guardOf ops l j = some v) : yielded ops a.tmps j = match v with | .bool b => some b | _ => none := by
  unfold guardOf at h
  unfold yielded
  cases hd : (ops[j]?).bind (·.dst) with
  | none => simp [hd] at h
  | some t =>
    simp only [hd, Option.bind_some] at h ⊢
    have hg := ha.get t v h
    simp only [Array.getD_eq_getD_getElem?] at hg
    cases ht : a.tmps[t]? with
    | none =>
      rw [ht] at hg
      simp at hg
      subst hg
      rfl
    | some u =>
      rw [ht] at hg
      simp at hg
      subst hg
      cases u <;> rfl
theorem WL.val {o : Oper} {d : Nat} {v : Value} (hw : ∀ a, Has n l a → Region.wanted o (yielded ops a.tmps) = true) (hdst : o.dst = some d) (hd : Nat.blt d n.size = true) {R : World → Prop}
    (hrun : ∀ a, Has n l a → ∃ w', (execOp a.eval o).run P w = .ok (.value v) w' ∧ R w') (k : ∀ w', R w' → WL P n ops Q K os ((d, v) :: l) w') : WL P n ops Q K (o :: os) l w := by
  intro a ha
  obtain ⟨w', hr, hR⟩ := hrun a ha
  unfold FL
  rw [if_pos (hw a ha)]
  refine Ao hr ?_
  rw [hdst]
  exact k w' hR _ (ha.put hd v)
theorem WL.unit {o : Oper} (hw : ∀ a, Has n l a → Region.wanted o (yielded ops a.tmps) = true) (hdst : o.dst = none) {R : World → Prop}
    (hrun : ∀ a, Has n l a → ∃ w', (execOp a.eval o).run P w = .ok .skip w' ∧ R w') (k : ∀ w', R w' → WL P n ops Q K os l w') : WL P n ops Q K (o :: os) l w := by
  intro a ha
  obtain ⟨w', hr, hR⟩ := hrun a ha
  unfold FL
  rw [if_pos (hw a ha)]
  refine TY hr ?_
  rw [hdst]
  exact k w' hR a ha
theorem dY {op : Op} {ty : TypeId} {pos : String} {jI : Array Edge} {d : Option Nat} (a : Act) : Region.wanted ⟨d, op, ty, pos, jI, none⟩ (yielded ops a.tmps) = true := rfl
theorem lK {op : Op} {ty : TypeId} {pos : String} {jI : Array Edge} {d : Option Nat} {j : Nat} {aJ : Bool} (hg : guardOf ops l j = some (.bool aJ)) (a : Act) (ha : Has n l a) :
    Region.wanted ⟨d, op, ty, pos, jI, some (j, aJ)⟩ (yielded ops a.tmps) = true := by
  show (yielded ops a.tmps j == some aJ) = true
  rw [qA ha hg]
  simp
theorem WL.ev {op : Op} {ty : TypeId} {pos : String} {jI : Array Edge} {d : Nat} {v : Value} (h : Ev P n l w op v) (hd : Nat.blt d n.size = true) (k : WL P n ops Q K os ((d, v) :: l) w) :
    WL P n ops Q K (⟨some d, op, ty, pos, jI, none⟩ :: os) l w :=
  WL.val (fun a _ => dY a) rfl hd (R := fun w' => w' = w) (fun a ha => ⟨w, h _ a w rfl ha (Ext.refl w), rfl⟩) fun w' e => by subst e; exact k
theorem WL.bF {op : Op} {ty : TypeId} {pos : String} {jI : Array Edge} {d j : Nat} {aJ : Bool} {v : Value} (hg : guardOf ops l j = some (.bool aJ)) (h : Ev P n l w op v) (hd : Nat.blt d n.size = true) (k : WL P n ops Q K os ((d, v) :: l) w) :
    WL P n ops Q K (⟨some d, op, ty, pos, jI, some (j, aJ)⟩ :: os) l w :=
  WL.val (fun a ha => lK hg a ha) rfl hd (R := fun w' => w' = w) (fun a ha => ⟨w, h _ a w rfl ha (Ext.refl w), rfl⟩) fun w' e => by subst e; exact k
theorem WL.pass {op : Op} {ty : TypeId} {pos : String} {jI : Array Edge} {d j : Nat} {aJ : Bool} {v : Value} (hg : guardOf ops l j = some v) (hv : unlike aJ v = true) (hd : Nat.blt d n.size = true) (k : WL P n ops Q K os ((d, undef) :: l) w) :
    WL P n ops Q K (⟨some d, op, ty, pos, jI, some (j, aJ)⟩ :: os) l w := by
  intro a ha
  unfold FL
  have : Region.wanted ⟨some d, op, ty, pos, jI, some (j, aJ)⟩ (yielded ops a.tmps) = false := by
    show (yielded ops a.tmps j == some aJ) = false
    rw [qA ha hg]
    cases v <;> simp [unlike] at hv ⊢
    cases aJ <;> simp_all
  rw [this]
  exact k _ (ha.put hd undef)
theorem WL.cut (m : Nat) (l1 : List (Nat × Value)) (h : WL P n ops Q (fun a' w' => Has n l1 a' ∧ w' = w) (os.take m) l w) (k : WL P n ops Q K (os.drop m) l1 w) : WL P n ops Q K os l w := by
  intro a ha
  have key : ∀ (ys : List Oper) (a : Act) (w0 : World), FL P n ops Q (fun a' w' => Has n l1 a' ∧ w' = w) ys a w0 → FL P n ops Q K (ys ++ os.drop m) a w0 := by
    intro ys
    induction ys with
    | nil => rintro a w0 ⟨h1, rfl⟩; exact k a h1
    | cons o ys ih =>
      intro a w0 hh
      simp only [List.cons_append]
      unfold FL at hh ⊢
      split
      · rename_i hw
        rw [if_pos hw] at hh
        exact Ko (fun a w => ih a w) hh
      · rename_i hw
        rw [if_neg hw] at hh
        exact ih _ _ hh
  have := key (os.take m) a w (h a ha)
  rwa [List.take_append_drop] at this
theorem WL.ahO (m : Nat) (l1 : List (Nat × Value)) (h : WL P n ops Q (fun a' w' => Has n l1 a' ∧ Ext w w') (os.take m) l w) (k : ∀ w', Ext w w' → WL P n ops Q K (os.drop m) l1 w') : WL P n ops Q K os l w := by
  intro a ha
  have key : ∀ (ys : List Oper) (a : Act) (w0 : World), FL P n ops Q (fun a' w' => Has n l1 a' ∧ Ext w w') ys a w0 → FL P n ops Q K (ys ++ os.drop m) a w0 := by
    intro ys
    induction ys with
    | nil => rintro a w0 ⟨h1, h2⟩; exact k w0 h2 a h1
    | cons o ys ih =>
      intro a w0 hh
      simp only [List.cons_append]
      unfold FL at hh ⊢
      split
      · rename_i hw
        rw [if_pos hw] at hh
        exact Ko (fun a w => ih a w) hh
      · rename_i hw
        rw [if_neg hw] at hh
        exact ih _ _ hh
  have := key (os.take m) a w (h a ha)
  rwa [List.take_append_drop] at this
theorem WL.re {t : Nat} {u v : Value} (hl : look l t = some u) (e : u = v) (k : WL P n ops Q K os ((t, v) :: l) w) : WL P n ops Q K os l w :=
  fun a ha => k a (ha.set hl e)
theorem WP.re {t : Nat} {u v : Value} {c : Code} (hl : look l t = some u) (e : u = v) (k : WP P n c ((t, v) :: l) w Q) : WP P n c l w Q :=
  fun a ha => k a (ha.set hl e)
def WQ (P : Program) (n : Cx) (ops : Array Oper) (w : World) (Qa : Act → Prop) (os : List Oper) (l : List (Nat × Value)) : Prop := ∀ a, Has n l a → wpQuiet P ops (fun w' => Ext w w') Qa os a
theorem WP.draw {ol : List Oper} {id : Nat} {y : Code} (hm : P.follows .mixedOrders = true) (hB : Region.lexB .any ol.toArray = true)
    (h : WQ P n ol.toArray w (fun a => ∀ w', Ext w w' → J7 P n y Q a w') ol l) (hro : n.round = none := by rfl) : WP P n (.seq (.region id ol.toArray true) y) l w Q := fun a ha => by
  refine wpIn_seq ?_
  rw [Cx.nA hro]
  refine wpIn_wide.2 (wp_region_quiet (C := fun w' => Ext w w') hm hB ⟨Y, Y, Y, Nat.le_refl _, fun _ _ => Y, Nat.le_succ _⟩ ?_)
  have := h a ha
  unfold J7 at this
  rw [Cx.nA hro] at this
  exact this
theorem WQ.done {y : Code} (h : ∀ w', Ext w w' → WP P n y l w' Q) : WQ P n ops w (fun a => ∀ w', Ext w w' → J7 P n y Q a w') [] l := fun a ha w' e => h w' e a ha
theorem WQ.ev {Qa : Act → Prop} {op : Op} {ty : TypeId} {pos : String} {jI : Array Edge} {d : Nat} {v : Value} (h : Ev P n l w op v) (hd : Nat.blt d n.size = true) (k : WQ P n ops w Qa os ((d, v) :: l)) :
    WQ P n ops w Qa (⟨some d, op, ty, pos, jI, none⟩ :: os) l := by
  intro a ha
  unfold wpQuiet
  rw [if_pos (dY a)]
  refine ⟨v, fun w' e => ?_, k _ (ha.put hd v)⟩
  unfold Oper.quietAt
  rw [h _ a w' rfl ha e]
  exact ⟨Y, Y⟩
theorem WQ.bF {Qa : Act → Prop} {op : Op} {ty : TypeId} {pos : String} {jI : Array Edge} {d j : Nat} {aJ : Bool} {v : Value} (hg : guardOf ops l j = some (.bool aJ)) (h : Ev P n l w op v) (hd : Nat.blt d n.size = true) (k : WQ P n ops w Qa os ((d, v) :: l)) :
    WQ P n ops w Qa (⟨some d, op, ty, pos, jI, some (j, aJ)⟩ :: os) l := by
  intro a ha
  unfold wpQuiet
  rw [if_pos (lK hg a ha)]
  refine ⟨v, fun w' e => ?_, k _ (ha.put hd v)⟩
  unfold Oper.quietAt
  rw [h _ a w' rfl ha e]
  exact ⟨Y, Y⟩
theorem WQ.pass {Qa : Act → Prop} {op : Op} {ty : TypeId} {pos : String} {jI : Array Edge} {d j : Nat} {aJ : Bool} {v : Value} (hg : guardOf ops l j = some v) (hv : unlike aJ v = true) (hd : Nat.blt d n.size = true) (k : WQ P n ops w Qa os ((d, undef) :: l)) :
    WQ P n ops w Qa (⟨some d, op, ty, pos, jI, some (j, aJ)⟩ :: os) l := by
  intro a ha
  unfold wpQuiet
  have : Region.wanted ⟨some d, op, ty, pos, jI, some (j, aJ)⟩ (yielded ops a.tmps) = false := by
    show (yielded ops a.tmps j == some aJ) = false
    rw [qA ha hg]
    cases v <;> simp [unlike] at hv ⊢
    cases aJ <;> simp_all
  rw [this]
  exact k _ (ha.put hd undef)
theorem WQ.re {Qa : Act → Prop} {t : Nat} {u v : Value} (hl : look l t = some u) (e : u = v) (k : WQ P n ops w Qa os ((t, v) :: l)) : WQ P n ops w Qa os l :=
  fun a ha => k a (ha.set hl e)
theorem WQ.cut {Qa : Act → Prop} (m : Nat) (l1 : List (Nat × Value)) (h : WQ P n ops w (fun a' => Has n l1 a') (os.take m) l) (k : WQ P n ops w Qa (os.drop m) l1) : WQ P n ops w Qa os l := by
  intro a ha
  have key : ∀ (ys : List Oper) (a : Act), wpQuiet P ops (fun w' => Ext w w') (fun a' => Has n l1 a') ys a → wpQuiet P ops (fun w' => Ext w w') Qa (ys ++ os.drop m) a := by
    intro ys
    induction ys with
    | nil => intro a h1; exact k a h1
    | cons o ys ih =>
      intro a hh
      simp only [List.cons_append]
      unfold wpQuiet at hh ⊢
      split
      · rename_i hw
        rw [if_pos hw] at hh
        exact Oper.quiet_mono (fun a => ih a) hh
      · rename_i hw
        rw [if_neg hw] at hh
        exact ih _ hh
  have := key (os.take m) a (h a ha)
  rwa [List.take_append_drop] at this
end
def aM (P : Program) (f : FuncId) : Prop := ∀ (args : Array Value) (w : World), (callFunc f args).run P w = .ok (.enter f args) w
section
variable {P : Program} {n : Cx} {l l' : List (Nat × Value)} {w w' : World} {Q : Exit → Act → World → Prop} {K : Act → World → Prop} {ops : Array Oper} {os : List Oper}
theorem sU {a : Act} {o : Oper} {Af : Operand} {args : List Operand} {tys : Array TypeId} (ho : o.op = .call ⟨.value Af, args.toArray, tys⟩) (ha : Has n l a) {f : FuncId} {caps vs all : List Value}
    (hf : gF l Af = some (.func (.func f) #[] caps.toArray)) (hargs : yF l args = some vs) (hall : vs ++ caps = all) (hc : aM P f) (w : World) : (execOp a.eval o).run P w = .ok (.enter f all.toArray) w := by
  unfold execOp
  rw [ho]
  have h1 := ha.eval hf
  have h2 := ha.J9 hargs
  simp only [resolve, h1, Deferred.ofValue, Sem.run_bind, Sem.run_pure, Result.andThen_ok, invoke]
  have : (#[] ++ Array.map a.eval args.toArray ++ caps.toArray : Array Value) = all.toArray := by
    rw [List.map_toArray, h2, ← hall]; simp
  rw [this]
  exact hc _ w
theorem Kr {o : Oper} {a : Act} {f : FuncId} {args : Array Value} {R : Value → World → Prop} (hw : Region.wanted o (yielded ops a.tmps) = true) (hrun : (execOp a.eval o).run P w = .ok (.enter f args) w) (hc : bY P f args w R)
    (k : ∀ v w', R v w' → FL P n ops Q K os (a.put o.dst v) w') : FL P n ops Q K (o :: os) a w := by
  unfold FL
  rw [if_pos hw]
  refine Gm hrun (Calls.mono hc ?_)
  rintro e w' ⟨v, rfl, hv⟩
  exact ⟨v, Y, k v w' hv⟩
theorem WL.call {d : Nat} {ty : TypeId} {pos : String} {jI : Array Edge} {Af : Operand} {args : List Operand} {tys : Array TypeId} {f : FuncId} {caps vs all : List Value} {R : Value → World → Prop}
    (hf : gF l Af = some (.func (.func f) #[] caps.toArray)) (hargs : yF l args = some vs) (hall : vs ++ caps = all) (Ap : aM P f) (hc : bY P f all.toArray w R) (hd : Nat.blt d n.size = true)
    (k : ∀ v w', R v w' → WL P n ops Q K os ((d, v) :: l) w') : WL P n ops Q K (⟨some d, .call ⟨.value Af, args.toArray, tys⟩, ty, pos, jI, none⟩ :: os) l w :=
  fun a ha => Kr (dY a) (sU rfl ha hf hargs hall Ap w) hc fun v w' hv => k v w' hv _ (ha.put hd v)
theorem WL.jd {d j : Nat} {aJ : Bool} {ty : TypeId} {pos : String} {jI : Array Edge} {Af : Operand} {args : List Operand} {tys : Array TypeId} {f : FuncId} {caps vs all : List Value} {R : Value → World → Prop}
    (hg : guardOf ops l j = some (.bool aJ))
    (hf : gF l Af = some (.func (.func f) #[] caps.toArray)) (hargs : yF l args = some vs) (hall : vs ++ caps = all) (Ap : aM P f) (hc : bY P f all.toArray w R) (hd : Nat.blt d n.size = true)
    (k : ∀ v w', R v w' → WL P n ops Q K os ((d, v) :: l) w') : WL P n ops Q K (⟨some d, .call ⟨.value Af, args.toArray, tys⟩, ty, pos, jI, some (j, aJ)⟩ :: os) l w :=
  fun a ha => Kr (lK hg a ha) (sU rfl ha hf hargs hall Ap w) hc fun v w' hv => k v w' hv _ (ha.put hd v)
theorem WQ.call {Qa : Act → Prop} {d : Nat} {ty : TypeId} {pos : String} {jI : Array Edge} {Af : Operand} {args : List Operand} {tys : Array TypeId} {f : FuncId} {caps vs all : List Value} {v : Value}
    (hf : gF l Af = some (.func (.func f) #[] caps.toArray)) (hargs : yF l args = some vs) (hall : vs ++ caps = all) (Ap : aM P f)
    (hc : ∀ w', Ext w w' → bY P f all.toArray w' fun u w'' => u = v ∧ Ext w' w'') (hd : Nat.blt d n.size = true)
    (k : WQ P n ops w Qa os ((d, v) :: l)) : WQ P n ops w Qa (⟨some d, .call ⟨.value Af, args.toArray, tys⟩, ty, pos, jI, none⟩ :: os) l := by
  intro a ha
  unfold wpQuiet
  rw [if_pos (dY a)]
  refine ⟨v, fun w' e => ?_, k _ (ha.put hd v)⟩
  unfold Oper.quietAt
  rw [sU rfl ha hf hargs hall Ap w']
  exact ⟨Y, Calls.mono (hc w' e) fun x w'' ⟨u, hx, hu, he⟩ => by subst hu; exact ⟨hx, e.trans he⟩⟩
theorem WQ.jd {Qa : Act → Prop} {d j : Nat} {aJ : Bool} {ty : TypeId} {pos : String} {jI : Array Edge} {Af : Operand} {args : List Operand} {tys : Array TypeId} {f : FuncId} {caps vs all : List Value} {v : Value}
    (hg : guardOf ops l j = some (.bool aJ))
    (hf : gF l Af = some (.func (.func f) #[] caps.toArray)) (hargs : yF l args = some vs) (hall : vs ++ caps = all) (Ap : aM P f)
    (hc : ∀ w', Ext w w' → bY P f all.toArray w' fun u w'' => u = v ∧ Ext w' w'') (hd : Nat.blt d n.size = true)
    (k : WQ P n ops w Qa os ((d, v) :: l)) : WQ P n ops w Qa (⟨some d, .call ⟨.value Af, args.toArray, tys⟩, ty, pos, jI, some (j, aJ)⟩ :: os) l := by
  intro a ha
  unfold wpQuiet
  rw [if_pos (lK hg a ha)]
  refine ⟨v, fun w' e => ?_, k _ (ha.put hd v)⟩
  unfold Oper.quietAt
  rw [sU rfl ha hf hargs hall Ap w']
  exact ⟨Y, Calls.mono (hc w' e) fun x w'' ⟨u, hx, hu, he⟩ => by subst hu; exact ⟨hx, e.trans he⟩⟩
end
def Size (P : Program) (t : TypeId) (k : Nat) : Prop := ∀ w, (sizeOf t).run P w = .ok k w
def kH (P : Program) (t : TypeId) : Prop := ∀ w, (isAgg t).run P w = .ok false w
def NT (P : Program) (t : TypeId) (k : Nat) : Prop := (∀ w, (isAgg t).run P w = .ok true w) ∧ Size P t k
def dL (P : Program) (s f off : Nat) : Prop := ∀ (a : Addr) (w : World), (Instr.fieldAt s (.pointer (some a)) f).run P w = .ok (.pointer (some (a.add off))) w
section
variable {P : Program} {n : Cx} {l : List (Nat × Value)} {w : World}
theorem uo {t e : TypeId} (hu : P.underlying t = some (.slice e)) : P.elem t = e := by simp [Program.elem, hu]
theorem l5 {t e : TypeId} (hu : P.underlying t = some (.slice e)) : P.underlying t = some (.slice (P.elem t)) := by rw [uo hu]; exact hu
theorem Ev.move {x : Operand} {v : Value} (hx : gF l x = some v) : Ev P n l w (.move x) v := fun o a w' ho ha _ => by
  unfold execOp; rw [ho]; simp [ha.eval hx]
theorem Ev.assign {x : Operand} {v : Value} (hx : gF l x = some v) : Ev P n l w (.assign x) v := fun o a w' ho ha _ => by
  unfold execOp; rw [ho]; simp [ha.eval hx]
theorem Ev.bq {c x y : Operand} {v : Value} (hc : gF l c = some (.bool true)) (hx : gF l x = some v) : Ev P n l w (.pick c x y) v := fun o a w' ho ha _ => by
  unfold execOp; rw [ho]; simp [ha.eval hx, ha.eval hc, asBool]
theorem Ev.bn {c x y : Operand} {v : Value} (hc : gF l c = some (.bool false)) (hx : gF l y = some v) : Ev P n l w (.pick c x y) v := fun o a w' ho ha _ => by
  unfold execOp; rw [ho]; simp [ha.eval hx, ha.eval hc, asBool]
theorem Ev.binop {op : BinOp} {t ty : TypeId} {x y : Operand} {u v r : Value} (hx : gF l x = some u) (hy : gF l y = some v) (hg : eqGuard op t x y u v = pure ()) (hr : ∀ w, (binOp op t u v).run P w = .ok r w) :
    Ev P n l w (.binOp op t x y ty) r := fun o a w' ho ha _ => by
  unfold execOp; rw [ho]; simp [ha.eval hx, ha.eval hy, hg, hr]
section
variable {t ty : TypeId} {x y : Operand} {k : IntKind} {a b : Int}
theorem Ev.lss (hx : gF l x = some (.int k a)) (hy : gF l y = some (.int k b)) : Ev P n l w (.binOp .lss t x y ty) (.bool (decide (a < b))) :=
  Ev.binop hx hy (eqGuard_at_int ..) fun w => by rw [binOp_lss]; rfl
theorem Ev.leq (hx : gF l x = some (.int k a)) (hy : gF l y = some (.int k b)) : Ev P n l w (.binOp .leq t x y ty) (.bool (decide (a ≤ b))) :=
  Ev.binop hx hy (eqGuard_at_int ..) fun w => by rw [binOp_leq]; rfl
theorem Ev.gtr (hx : gF l x = some (.int k a)) (hy : gF l y = some (.int k b)) : Ev P n l w (.binOp .gtr t x y ty) (.bool (decide (b < a))) :=
  Ev.binop hx hy (eqGuard_at_int ..) fun w => by rw [binOp_gtr]; rfl
theorem Ev.geq (hx : gF l x = some (.int k a)) (hy : gF l y = some (.int k b)) : Ev P n l w (.binOp .geq t x y ty) (.bool (decide (b ≤ a))) :=
  Ev.binop hx hy (eqGuard_at_int ..) fun w => by rw [binOp_geq]; rfl
theorem Ev.eql (hx : gF l x = some (.int k a)) (hy : gF l y = some (.int k b)) : Ev P n l w (.binOp .eql t x y ty) (.bool (decide (a = b))) :=
  Ev.binop hx hy (eqGuard_at_int ..) fun w => by rw [binOp_eql]; rfl
theorem Ev.neq (hx : gF l x = some (.int k a)) (hy : gF l y = some (.int k b)) : Ev P n l w (.binOp .neq t x y ty) (.bool (!decide (a = b))) :=
  Ev.binop hx hy (eqGuard_at_int ..) fun w => by rw [binOp_neq]; rfl
theorem Ev.ahP (hx : gF l x = some (.int k a)) (hy : gF l y = some (.int k b)) : Ev P n l w (.binOp .add t x y ty) (.int k (k.wrap (a + b))) :=
  Ev.binop hx hy (eqGuard_at_int ..) fun w => by rw [binOp_add]; rfl
theorem Ev.ahQ (hx : gF l x = some (.int k a)) (hy : gF l y = some (.int k b)) : Ev P n l w (.binOp .sub t x y ty) (.int k (k.wrap (a - b))) :=
  Ev.binop hx hy (eqGuard_at_int ..) fun w => by rw [binOp_sub]; rfl
theorem Ev.ahR (hx : gF l x = some (.int k a)) (hy : gF l y = some (.int k b)) : Ev P n l w (.binOp .mul t x y ty) (.int k (k.wrap (a * b))) :=
  Ev.binop hx hy (eqGuard_at_int ..) fun w => by rw [binOp_mul]; rfl
end
def eX (x : Int) : Prop := -9223372036854775808 ≤ x ∧ x ≤ 9223372036854775807
theorem eX.mk {x : Int} (h1 : -9223372036854775808 ≤ x) (h2 : x ≤ 9223372036854775807) : eX x := ⟨h1, h2⟩
theorem eX.wrap {x : Int} (h : eX x) : IntKind.i64.wrap x = x := IntWalk.i64_in x h
section
variable {t ty : TypeId} {x y : Operand} {a b : Int}
theorem Ev.add (hx : gF l x = some (.int .i64 a)) (hy : gF l y = some (.int .i64 b)) (h : eX (a + b)) : Ev P n l w (.binOp .add t x y ty) (.int .i64 (a + b)) := by
  have := Ev.ahP (P := P) (n := n) (w := w) (t := t) (ty := ty) hx hy; rwa [h.wrap] at this
theorem Ev.sub (hx : gF l x = some (.int .i64 a)) (hy : gF l y = some (.int .i64 b)) (h : eX (a - b)) : Ev P n l w (.binOp .sub t x y ty) (.int .i64 (a - b)) := by
  have := Ev.ahQ (P := P) (n := n) (w := w) (t := t) (ty := ty) hx hy; rwa [h.wrap] at this
theorem Ev.mul (hx : gF l x = some (.int .i64 a)) (hy : gF l y = some (.int .i64 b)) (h : eX (a * b)) : Ev P n l w (.binOp .mul t x y ty) (.int .i64 (a * b)) := by
  have := Ev.ahR (P := P) (n := n) (w := w) (t := t) (ty := ty) hx hy; rwa [h.wrap] at this
theorem Ev.eqb {p q : Bool} (hu : P.underlying t = some .bool) (hx : gF l x = some (.bool p)) (hy : gF l y = some (.bool q)) : Ev P n l w (.binOp .eql t x y ty) (.bool (p == q)) :=
  Ev.binop hx hy (eqGuard_at_bool ..) fun w => run_eql_bool w t p q hu
theorem Ev.neb {p q : Bool} (hu : P.underlying t = some .bool) (hx : gF l x = some (.bool p)) (hy : gF l y = some (.bool q)) : Ev P n l w (.binOp .neq t x y ty) (.bool (!(p == q))) :=
  Ev.binop hx hy (eqGuard_at_bool ..) fun w => run_neq_bool w t p q hu
theorem Ev.Gn {e : TypeId} {A : an3} {m c m' c' : Nat} (hu : P.underlying t = some (.slice e)) (hx : gF l x = some (.slice A m c)) (hy : gF l y = some (.slice none m' c')) : Ev P n l w (.binOp .eql t x y ty) (.bool A.isNone) :=
  Ev.binop hx hy (eqGuard_at_slice ..) fun w => Lib.run_eql_slice_nil w t e A m c m' c' hu
theorem Ev.not {b : Bool} (hx : gF l x = some (.bool b)) : Ev P n l w (.unOp .not t x) (.bool (!b)) := fun o a w' ho ha _ => by
  unfold execOp; rw [ho]; simp [ha.eval hx]; rfl
theorem Ev.extract {vs : List Value} {i : Nat} {v : Value} (hx : gF l x = some (.tuple vs.toArray)) (hi : vs[i]? = some v) : Ev P n l w (.extract x i) v := fun o a w' ho ha _ => by
  unfold execOp; rw [ho]; simp [ha.eval hx, Instr.extract, hi]
theorem Ev.func {f : FuncId} {caps : List Operand} {vs : List Value} (hx : yF l caps = some vs) : Ev P n l w (.makeFunc (.func f) #[] caps.toArray) (.func (.func f) #[] vs.toArray) := fun o a w' ho ha _ => by
  have h2 := ha.J9 hx
  unfold execOp; rw [ho]
  simp only [List.map_toArray, h2]
  rfl
theorem Ev.len {e : TypeId} {A : an3} {m c : Nat} (hu : P.underlying t = some (.slice e)) (hx : gF l x = some (.slice A m c)) : Ev P n l w (.call ⟨.builtin .len, #[x], #[t]⟩) (.int .i64 (m : Int)) := fun o a w' ho ha _ => by
  unfold execOp; rw [ho]
  simp only [resolve, Sem.run_bind, Sem.run_pure, Result.andThen_ok, invoke, builtin, List.map_toArray, List.map_cons, List.map_nil, ha.eval hx, run_len_slice w' t o.type A m c (l5 hu)]
  rfl
theorem Ev.cap {e : TypeId} {A : an3} {m c : Nat} (hu : P.underlying t = some (.slice e)) (hx : gF l x = some (.slice A m c)) : Ev P n l w (.call ⟨.builtin .cap, #[x], #[t]⟩) (.int .i64 (c : Int)) := fun o a w' ho ha _ => by
  unfold execOp; rw [ho]
  simp only [resolve, Sem.run_bind, Sem.run_pure, Result.andThen_ok, invoke, builtin, List.map_toArray, List.map_cons, List.map_nil, ha.eval hx, run_cap_slice w' t o.type A m c (l5 hu)]
  rfl
theorem Ev.index {e : TypeId} {k : Nat} {A : an3} {m c i : Nat} {kd : IntKind} {z : Int} (hu : P.underlying t = some (.slice e)) (hs : Size P e k) (hx : gF l x = some (.slice A m c)) (hy : gF l y = some (.int kd z)) (hz : z = (i : Int)) (hi : i < m) (hA : A = some (vV A)) :
    Ev P n l w (.indexAddr t x y) (.pointer (some ((vV A).add (i * k)))) := fun o a w' ho ha _ => by
  unfold execOp; rw [ho]
  have h1 : (Instr.indexAt t (.slice A m c) (.int kd z)).run P w' = .ok (.pointer (some ((vV A).add (i * k)))) w' := by
    rw [hA, run_indexAt_slice w' t _ m c kd z (l5 hu), hz, if_pos ⟨by omega, by omega⟩, uo hu, hs w']
    simp [vV]
  simp [ha.eval hx, ha.eval hy, h1]
theorem Ev.field {s f off : Nat} {p q : Addr} (hf : dL P s f off) (hx : gF l x = some (.pointer (some p))) (hq : p.add off = q) : Ev P n l w (.fieldAddr s x f) (.pointer (some q)) := fun o a w' ho ha _ => by
  unfold execOp; rw [ho]; simp [ha.eval hx, hf p w', hq]
theorem Ev.aZ {v : Value} {p : Addr} (hn : kH P t) (hx : gF l x = some (.pointer (some p))) (hc : w.cell? p = some v) : Ev P n l w (.load t x) v := fun o a w' ho ha e => by
  unfold execOp; rw [ho]
  simp [ha.eval hx, Instr.loadAt, Instr.sureAddr, loadVar, hn w', run_load, e.cell hc]
theorem Ev.loadRow {k : Nat} {cs : List Value} {p : Addr} (hn : NT P t k) (hx : gF l x = some (.pointer (some p))) (hk : cs.length = k) (hc : ∀ j u, cs[j]? = some u → w.cell? (p.add j) = some u) : Ev P n l w (.load t x) (.agg cs.toArray) := fun o a w' ho ha e => by
  unfold execOp; rw [ho]
  have h1 := run_loadCells_list (P := P) w' p cs (fun j u hu => e.cell (hc j u hu))
  rw [hk] at h1
  simp [ha.eval hx, Instr.loadAt, Instr.sureAddr, loadVar, hn.1 w', hn.2 w', h1]
theorem Ev.bX {k : Nat} {cs : List Value} {g : Nat} {t' : TypeId} (hn : NT P t k) (hx : gF l x = some (.pointer (some ⟨g, 0, none⟩))) (hk : cs.length = k) (hb : Bx w g t' cs) : Ev P n l w (.load t x) (.agg cs.toArray) :=
  Ev.loadRow hn hx hk fun j u hu => by
    have : (⟨g, 0, none⟩ : Addr).add j = ⟨g, j, none⟩ := by rw [Addr.add_lit]; simp
    rw [this, hb.cell]; exact hu
theorem Ev.oZ {k off : Nat} {cs cs' : List Value} {g : Nat} {t' : TypeId} (hn : NT P t k) (hx : gF l x = some (.pointer (some ⟨g, off, none⟩))) (hk : cs'.length = k) (hb : Bx w g t' cs) (hs : (cs.drop off).take cs'.length = cs') : Ev P n l w (.load t x) (.agg cs'.toArray) :=
  Ev.loadRow hn hx hk fun j u hu => by
    have h1 : (⟨g, off, none⟩ : Addr).add j = ⟨g, off + j, none⟩ := by rw [Addr.add_lit]
    have h2 : j < cs'.length := (List.getElem?_eq_some_iff.1 hu).1
    rw [h1, hb.cell]
    rw [← hs, List.getElem?_take, if_pos h2, List.getElem?_drop] at hu
    exact hu
theorem Ev.aj {v : Value} {cs : List Value} {g i : Nat} {t' : TypeId} (hn : kH P t) (hx : gF l x = some (.pointer (some ⟨g, i, none⟩))) (hb : Bx w g t' cs) (hi : cs[i]? = some v) : Ev P n l w (.load t x) v :=
  Ev.aZ hn hx (by rw [hb.cell]; exact hi)
theorem Ev.Yk {d : TypeId} {k k' : IntKind} (hs : (P.underlying t).isSome = true) (hd : P.underlying d = some (.int (P.intKind d))) (hk : P.intKind d = k') (hx : gF l x = some (.int k a)) : Ev P n l w (.convert t d x) (.int k' (k'.wrap a)) := fun o ac w' ho ha _ => by
  unfold execOp; rw [ho]
  have := run_convert_int w' t d k a hs hd
  rw [hk] at this
  simp [ha.eval hx, this]
theorem Ev.max2 {ts : Array TypeId} {k k' : IntKind} (hx : gF l x = some (.int k a)) (hy : gF l y = some (.int k' b)) : Ev P n l w (.call ⟨.builtin .max, #[x, y], ts⟩) (.int k (if b > a then b else a)) := fun o ac w' ho ha _ => by
  unfold execOp; rw [ho]
  simp only [resolve, Sem.run_bind, Sem.run_pure, Result.andThen_ok, invoke, builtin, List.map_toArray, List.map_cons, List.map_nil, ha.eval hx, ha.eval hy, run_max_int2]
theorem Ev.min2 {ts : Array TypeId} {k k' : IntKind} (hx : gF l x = some (.int k a)) (hy : gF l y = some (.int k' b)) : Ev P n l w (.call ⟨.builtin .min, #[x, y], ts⟩) (.int k (if b < a then b else a)) := fun o ac w' ho ha _ => by
  unfold execOp; rw [ho]
  simp only [resolve, Sem.run_bind, Sem.run_pure, Result.andThen_ok, invoke, builtin, List.map_toArray, List.map_cons, List.map_nil, ha.eval hx, ha.eval hy, run_min_int2]
theorem Ev.build {parts : List (Nat × Operand)} {vs : List (Nat × Value)} {cs : List Value} (hx : ze l parts = some vs) (hb : P.built t vs = some cs.toArray) : Ev P n l w (.build t parts.toArray) (.agg cs.toArray) := fun o a w' ho ha _ => by
  unfold execOp; rw [ho]
  have h1 := run_build (P := P) w' t vs.toArray cs.toArray (by simpa using hb)
  simp only [List.map_toArray, ha.ze hx, Sem.run_bind, h1, Result.andThen_ok, Sem.run_pure]
end
end
theorem Sl.aX {α : Type} {k : Nat} {enc : α → List Value} {pos : 0 < k} {hl : ∀ x, (enc x).length = k} {h1 : ∀ x, ∀ u ∈ enc x, u.oneCell' = true} {S : Nat → Prop} {w : World} {A : an3} {c : Nat} {xs : List α}
    (h : Sl (Ty.flat k enc pos hl h1) S w A c xs) {i : Nat} {x : α} (hx : xs[i]? = some x) {j : Nat} {u : Value} (hj : (enc x)[j]? = some u) : w.cell? ((vV A).add (i * k + j)) = some u := by
  obtain ⟨_, cs, h2, h3⟩ := h.rows i x hx
  have : cs = enc x := h2
  subst this
  exact h3 j u hj
theorem Sl.dx {α : Type} {k : Nat} {enc : α → List Value} {pos : 0 < k} {hl : ∀ x, (enc x).length = k} {h1 : ∀ x, ∀ u ∈ enc x, u.oneCell' = true} {S : Nat → Prop} {w : World} {A : an3} {c : Nat} {xs : List α}
    (h : Sl (Ty.flat k enc pos hl h1) S w A c xs) {i : Nat} {x : α} (hx : xs[i]? = some x) : ∀ j u, (enc x)[j]? = some u → w.cell? (((vV A).add (i * k)).add j) = some u := fun j u hj => by
  rw [bJ]; exact h.aX hx hj
section
variable {P : Program} {n : Cx} {l : List (Nat × Value)} {w : World} {Q : Exit → Act → World → Prop} {K : Act → World → Prop} {ops : Array Oper} {os : List Oper} {ty : TypeId} {pos : String} {jI : Array Edge} {d : Nat}
theorem WL.box {t : TypeId} {x : Operand} {v : Value} {cs : List Value} (hx : gF l x = some v) (hcs : v.cells = cs.toArray) (hd : Nat.blt d n.size = true)
    (k : ∀ w', Ext w w' → Bx w' w.heap.size t cs → w'.heap.size = w.heap.size + 1 → WL P n ops Q K os ((d, .pointer (some ⟨w.heap.size, 0, none⟩)) :: l) w') : WL P n ops Q K (⟨some d, .box t x, ty, pos, jI, none⟩ :: os) l w :=
  WL.val (v := .pointer (some ⟨w.heap.size, 0, none⟩)) (fun a _ => dY a) rfl hd (R := fun w' => w' = w.alloc (.cells cs.toArray t)) (fun a ha => ⟨_, by
    unfold execOp
    simp only [ha.eval hx, Instr.box, newVar, newRow, hcs, Sem.run_bind, run_newObj, Sem.run_pure, Result.andThen_ok]
    rfl, rfl⟩) fun w' e => by
    subst e
    exact k _ (Ext.alloc w _) (Bx.new w t cs) (by simp)
theorem WL.alloc {t : TypeId} {z : Value} {cs : List Value} (hz : ∀ w, (zeroValue t).run P w = .ok z w) (hcs : z.cells = cs.toArray) (hd : Nat.blt d n.size = true)
    (k : ∀ w', Ext w w' → Bx w' w.heap.size t cs → w'.heap.size = w.heap.size + 1 → WL P n ops Q K os ((d, .pointer (some ⟨w.heap.size, 0, none⟩)) :: l) w') : WL P n ops Q K (⟨some d, .alloc t, ty, pos, jI, none⟩ :: os) l w :=
  WL.val (v := .pointer (some ⟨w.heap.size, 0, none⟩)) (fun a _ => dY a) rfl hd (R := fun w' => w' = w.alloc (.cells cs.toArray t)) (fun a ha => ⟨_, by
    unfold execOp
    simp only [Instr.alloc, hz, newVar, newRow, hcs, Sem.run_bind, run_newObj, Sem.run_pure, Result.andThen_ok]
    rfl, rfl⟩) fun w' e => by
    subst e
    exact k _ (Ext.alloc w _) (Bx.new w t cs) (by simp)
theorem WL.buildSlice {t e : TypeId} {k : Nat} {m : Nat} {parts : List (Nat × Operand)} {vs : List (Nat × Value)} {cs : List Value} (hx : ze l parts = some vs)
    (hb : ∀ w, (Instr.buildSlice t m vs.toArray).run P w = .ok (.slice (some ⟨w.heap.size, 0, none⟩) m m) (w.alloc (.cells cs.toArray e))) (hd : Nat.blt d n.size = true) (hk : cs.length = m * k)
    (kk : ∀ w', Ext w w' → Bx w' w.heap.size e cs → w'.heap.size = w.heap.size + 1 → WL P n ops Q K os ((d, .slice (some ⟨w.heap.size, 0, none⟩) m m) :: l) w') : WL P n ops Q K (⟨some d, .buildSlice t m parts.toArray, ty, pos, jI, none⟩ :: os) l w :=
  WL.val (v := .slice (some ⟨w.heap.size, 0, none⟩) m m) (fun a _ => dY a) rfl hd (R := fun w' => w' = w.alloc (.cells cs.toArray e)) (fun a ha => ⟨_, by
    unfold execOp
    simp only [List.map_toArray, ha.ze hx, Sem.run_bind, hb, Result.andThen_ok, Sem.run_pure], rfl⟩) fun w' e => by
    subst e
    exact kk _ (Ext.alloc w _) (Bx.new w _ cs) (by simp)
theorem IG {g : Nat} {t t' : TypeId} {cs ds : List Value} (hs : Size P t ds.length) (hb : Bx w g t' cs) (hl : cs.length = ds.length) (h1 : ∀ u ∈ ds, u.oneCell' = true) {v : Value} (hv : v.cells = ds.toArray) :
    ∃ w', (Instr.storeAt t (.pointer (some ⟨g, 0, none⟩)) v).run P w = .ok () w' ∧ Mod g w w' ∧ Bx w' g t' ds ∧ w'.heap.size = w.heap.size := by
  have hst := run_storeCells_at P g 0 t' ds 0 cs.toArray w hb (by simp [hl]) h1
  refine ⟨w.setRow g ds.toArray, ?_, ⟨Y, Y, Y, by simp, fun k _ hn => setRow_other w g k _ hn, Nat.le_refl _⟩, setRow_heap w g cs.toArray ds.toArray t' (0, 0) hb, by simp⟩
  · simp only [Instr.storeAt, Instr.sureAddr, storeVar, hv, Sem.run_bind, Sem.run_pure, Result.andThen_ok, hs w]
    simp only [List.size_toArray, ne_eq, not_true_eq_false, if_false, Sem.run_bind, Sem.run_pure, Result.andThen_ok]
    rw [hst]
    have hdrop : List.drop ds.length cs = [] := List.drop_eq_nil_of_le (by omega)
    simp [hdrop]
theorem WL.Ua {t t' : TypeId} {x y : Operand} {g : Nat} {v : Value} {cs ds : List Value} (hx : gF l x = some (.pointer (some ⟨g, 0, none⟩))) (hy : gF l y = some v) (hv : v.cells = ds.toArray) (hs : Size P t ds.length) (hb : Bx w g t' cs) (hl : cs.length = ds.length) (h1 : ∀ u ∈ ds, u.oneCell' = true)
    (k : ∀ w', Mod g w w' → Bx w' g t' ds → w'.heap.size = w.heap.size → WL P n ops Q K os l w') : WL P n ops Q K (⟨none, .store t x y, ty, pos, jI, none⟩ :: os) l w :=
  WL.unit (fun a _ => dY a) rfl (R := fun w' => Mod g w w' ∧ Bx w' g t' ds ∧ w'.heap.size = w.heap.size) (fun a ha => by
    obtain ⟨w', h2, h3⟩ := IG (P := P) (w := w) hs hb hl h1 hv
    exact ⟨w', by unfold execOp; simp [ha.eval hx, ha.eval hy, h2], h3⟩) fun w' ⟨h3, h4, h5⟩ => k w' h3 h4 h5
theorem FW {g i : Nat} {t t' : TypeId} {cs : List Value} (hs : Size P t 1) (hb : Bx w g t' cs) (hi : i < cs.length) {v : Value} (h1 : v.oneCell' = true) :
    (Instr.storeAt t (.pointer (some ⟨g, i, none⟩)) v).run P w = .ok () (w.setCell ⟨g, i, none⟩ v) := by
  have hc : v.cells = #[v] := by cases v <;> simp [Value.cells, Value.oneCell'] at h1 ⊢
  have h2 : w.cell? ⟨g, i, none⟩ = some (cs[i]'hi) := by rw [hb.cell]; exact List.getElem?_eq_getElem hi
  simp only [Instr.storeAt, Instr.sureAddr, storeVar, hc, Sem.run_bind, Sem.run_pure, Result.andThen_ok, hs w]
  simp [storeCells, Addr.add, run_store P w ⟨g, i, none⟩ v .plain h1, h2, hb.frozen]
theorem WL.Rj {t t' : TypeId} {x y : Operand} {g i : Nat} {v : Value} {cs : List Value} (hx : gF l x = some (.pointer (some ⟨g, i, none⟩))) (hy : gF l y = some v) (h1 : v.oneCell' = true) (hs : Size P t 1) (hb : Bx w g t' cs) (hi : i < cs.length)
    (k : ∀ w', Mod g w w' → Bx w' g t' (cs.set i v) → w'.heap.size = w.heap.size → WL P n ops Q K os l w') : WL P n ops Q K (⟨none, .store t x y, ty, pos, jI, none⟩ :: os) l w :=
  WL.unit (fun a _ => dY a) rfl (R := fun w' => w' = w.setCell ⟨g, i, none⟩ v) (fun a ha => ⟨_, by
    unfold execOp; simp [ha.eval hx, ha.eval hy, FW (P := P) hs hb hi h1], rfl⟩) fun w' e => by
    subst e
    exact k _ (Mod.setCell w ⟨g, i, none⟩ v) (hb.ahL i v) (by simp)
structure je (P : Program) (e : TypeId) (k bytes : Nat) : Prop where
  ex : ∃ (i : TypeInfo) (z : Value), P.info? e = some i ∧ i.zero = some z ∧ i.size = k ∧ i.bytes = bytes ∧ z.cells.size = k
theorem NU {α : Type} {τ : Ty α} {t e : TypeId} {bytes lo : Nat} {S S2 : Nat → Prop} {A B : an3} {c c2 : Nat} {xs ys : List α} (hT : P.underlying t = some (.slice e)) (hI : je P e τ.k bytes)
    (ho : Own τ e lo S w A c xs) (hy : Sl τ S2 w B c2 ys) (Kt : ∀ w x cs, τ.R S2 w x cs → τ.R S w x cs) (hS : ∀ g, blk A = some g → ¬ S g) (hmax : xs.length + ys.length ≤ maxLen) (hby : (xs.length + ys.length) * bytes ≤ 140737488355328) (hlo : lo ≤ w.heap.size) (r : TypeId) :
    ∃ A' c' w', (Builtin.append_ #[t, t] r #[.slice A xs.length c, .slice B ys.length c2]).run P w = .ok (.slice A' (xs ++ ys).length c') w' ∧ Own τ e lo S w' A' c' (xs ++ ys) ∧ yw w w' (blk A) ∧ (blk A' = blk A ∨ blk A' = some w.heap.size) := by
  obtain ⟨i, z, hi, hz, hsz, hb, hzs⟩ := hI.ex
  have hblk : ∀ m c, (Value.slice A m c).ownBlock = blk A := by intro m c; cases A <;> rfl
  by_cases hys : ys = []
  · subst hys
    obtain ⟨css, hl, hR, hown⟩ := ho
    refine ⟨A, c, w, ?_, ?_, ⟨Y, Y, Y, Nat.le_refl _, fun _ _ _ => Y, Nat.le_refl _⟩, .inl Y⟩
    · rcases hown.2 with ⟨hv, hn⟩ | ⟨g, cap, cur, hv, _, _, hnc, _⟩
      · injection hv with hA hn' hc
        subst hA hc
        cases B <;> simp [Builtin.append_, run_underlying hT, sizeOf, typeInfo, hi, Builtin.lenOf, hn, Builtin.firstCells, loadCells, loadCellsFrom]
      · injection hv with hA hn' hc
        subst hA hc
        cases B <;> simp [Builtin.append_, run_underlying hT, sizeOf, typeInfo, hi, Builtin.lenOf, hnc, Builtin.firstCells, loadCells, loadCellsFrom, storeCells]
    · rw [List.append_nil]
      exact ⟨css, hl, hR, hown⟩
  · have hB : B = some (vV B) := hy.some_ (i := 0) (x := ys.head hys) (by cases ys with | nil => exact absurd rfl hys | cons y ys => rfl)
    obtain ⟨css, hl, hR, hown⟩ := ho
    obtain ⟨dss, h1, h2, h3, h4, h5⟩ := hy.cells
    obtain ⟨v', w', hrun, hown', hg, _, hat⟩ := run_append_own_at (P := P) w lo t r e i z τ.k bytes hT hi hz hsz hb hzs τ.pos _ _ _ hown (vV B) ys.length c2 dss.flatten h3 h5 h4 hmax hby hlo
    obtain ⟨A', c', hv⟩ : ∃ A' c', v' = .slice A' (xs ++ ys).length c' := by
      rcases hown'.2 with ⟨hv, hn⟩ | ⟨g, cap, cur, hv, _⟩
      · exact ⟨none, 0, by rw [hv, List.length_append, hn]⟩
      · exact ⟨_, _, by rw [hv, List.length_append]⟩
    subst hv
    have hA' : (Value.slice A' (xs ++ ys).length c').ownBlock = blk A' := by cases A' <;> rfl
    rw [hA', hblk] at hat
    rw [hblk] at hg
    have hg := yw.of hg (Rf _ _ _ _ hrun)
    have hkeep : ∀ x cs, τ.R S w x cs → τ.R S w' x cs := by
      intro x cs hx
      cases hA : blk A with
      | none => rw [hA] at hg; exact τ.ext (Ext.kQ hg (fun k hk => by cases hk)) hx
      | some g => rw [hA] at hg; exact τ.mod (Mod.kQ hg (fun k hk => by cases hk; rfl)) (hS g hA) hx
    refine ⟨A', c', w', by rw [hB]; exact hrun, ⟨css ++ dss, by simp [hl, h1], ?_, ?_⟩, hg, hat⟩
    · intro i x hx
      by_cases hix : i < xs.length
      · rw [List.getElem?_append_left hix] at hx
        obtain ⟨cs, h6, h7⟩ := hR i x hx
        exact ⟨cs, by rw [List.getElem?_append_left (by omega)]; exact h6, hkeep x cs h7⟩
      · rw [List.getElem?_append_right (by omega)] at hx
        obtain ⟨cs, h6, h7⟩ := h2 _ x hx
        exact ⟨cs, by rw [List.getElem?_append_right (by omega), hl]; exact h6, hkeep x cs (Kt w x cs h7)⟩
    · rw [List.flatten_append]
      have : (xs ++ ys).length = xs.length + ys.length := by simp
      rw [this] at hown' ⊢
      exact hown'
theorem WL.append {α : Type} {τ : Ty α} {t e : TypeId} {bytes lo : Nat} {S S2 : Nat → Prop} {A B : an3} {c c2 : Nat} {xs ys : List α} {s x : Operand} (hs : gF l s = some (.slice A xs.length c)) (hx : gF l x = some (.slice B ys.length c2))
    (ho : Own τ e lo S w A c xs) (hy : Sl τ S2 w B c2 ys) (hT : P.underlying t = some (.slice e)) (hI : je P e τ.k bytes) (Kt : ∀ w x cs, τ.R S2 w x cs → τ.R S w x cs) (hS : ∀ g, blk A = some g → ¬ S g)
    (hmax : xs.length + ys.length ≤ maxLen) (hby : (xs.length + ys.length) * bytes ≤ 140737488355328) (hlo : lo ≤ w.heap.size) (hd : Nat.blt d n.size = true)
    (k : ∀ A' c' w', Own τ e lo S w' A' c' (xs ++ ys) → yw w w' (blk A) → (blk A' = blk A ∨ blk A' = some w.heap.size) → WL P n ops Q K os ((d, .slice A' (xs ++ ys).length c') :: l) w') :
    WL P n ops Q K (⟨some d, .call ⟨.builtin .append, #[s, x], #[t, t]⟩, ty, pos, jI, none⟩ :: os) l w := by
  obtain ⟨A', c', w', hrun, h1, h2, h3⟩ := NU (P := P) (w := w) hT hI ho hy Kt hS hmax hby hlo ty
  refine WL.val (v := .slice A' (xs ++ ys).length c') (fun a _ => dY a) Y hd (R := fun w2 => w2 = w') (fun a ha => ⟨w', ?_, Y⟩) fun w2 e => by rw [e]; exact k A' c' w' h1 h2 h3
  unfold execOp
  simp only [resolve, Sem.run_bind, Sem.run_pure, Result.andThen_ok, invoke, builtin, List.map_toArray, List.map_cons, List.map_nil, ha.eval hs, ha.eval hx, hrun]
theorem WL.app {α : Type} {τ : Ty α} {t e : TypeId} {bytes lo : Nat} {S S2 : Nat → Prop} {A B : an3} {c c2 : Nat} {xs ys : List α} {s x : Operand} (hs : gF l s = some (.slice A xs.length c)) (hx : gF l x = some (.slice B ys.length c2))
    (ho : Own τ e lo S w A c xs) (hy : Sl τ S2 w B c2 ys) (hT : P.underlying t = some (.slice e)) (hI : je P e τ.k bytes) (Kt : ∀ w x cs, τ.R S2 w x cs → τ.R S w x cs) (hS : ∀ g, blk A = some g → ¬ S g)
    (hm1 : xs.length ≤ 1000000) (hm2 : ys.length ≤ 1000000) (hby : Nat.ble bytes 1000 = true) (hlo : lo ≤ w.heap.size) (hd : Nat.blt d n.size = true)
    (k : ∀ A' c' w', Own τ e lo S w' A' c' (xs ++ ys) → yw w w' (blk A) → (blk A' = blk A ∨ blk A' = some w.heap.size) → WL P n ops Q K os ((d, .slice A' (xs ++ ys).length c') :: l) w') :
    WL P n ops Q K (⟨some d, .call ⟨.builtin .append, #[s, x], #[t, t]⟩, ty, pos, jI, none⟩ :: os) l w :=
  WL.append hs hx ho hy hT hI Kt hS (by simp only [maxLen]; omega) (Nat.le_trans (Nat.mul_le_mul (show _ ≤ 2000000 by omega) (Nat.le_of_ble_eq_true hby)) (by decide)) hlo hd k
end
def No : Nat → Prop := fun _ => False
theorem Own.fr {α : Type} {τ : Ty α} {e : TypeId} {lo : Nat} {a w : World} {A : an3} {c : Nat} {xs : List α} (h : Own τ e lo No w A c xs) (hlo : a.heap.size ≤ lo) : Sl τ (Fr a) w A c xs :=
  h.sl (fun _ hb => Nat.le_trans hlo hb) (fun _ hb => hb.elim)
theorem Bx.NV {α : Type} {τ : Ty α} {e : TypeId} {S S2 : Nat → Prop} {w : World} {g : Nat} {cs : List Value} {x : α} (h : Bx w g e cs) (hR : τ.R S2 w x cs) (hg : S g) (hS : ∀ b, S2 b → S b) : Sl τ S w (some ⟨g, 0, none⟩) 1 [x] := by
  refine ⟨by simp, by simp [maxLen], (fun h => by cases h), fun i y hy => ?_⟩
  cases i with
  | succ i => simp at hy
  | zero =>
    simp at hy
    subst hy
    refine ⟨hg, cs, τ.sub hS hR, fun j u hu => ?_⟩
    have : (vV (some ⟨g, 0, none⟩)).add (0 * τ.k + j) = ⟨g, j, none⟩ := by simp [vV, Addr.add_lit]
    rw [this, h.cell]
    exact hu
theorem Bx.Rk {α : Type} {τ : Ty α} {e : TypeId} {lo : Nat} {S : Nat → Prop} {w : World} {g : Nat} (h : Bx w g e []) (hlo : lo ≤ g) : Own τ e lo S w (some ⟨g, 0, none⟩) 0 [] :=
  ⟨[], rfl, fun i x hx => by simp at hx, by simp, .inr ⟨g, 0, #[], rfl, hlo, h, Nat.le_refl _, by simp [maxLen], by simp, by simp⟩⟩
theorem Bx.Yl {α : Type} {τ : Ty α} {e : TypeId} {lo : Nat} {S : Nat → Prop} {w : World} {g : Nat} {cs : List Value} {x : α} (h : Bx w g e cs) (hR : τ.R S w x cs) (hlo : lo ≤ g) : Own τ e lo S w (some ⟨g, 0, none⟩) 1 [x] := by
  have hl := τ.len hR
  refine ⟨[cs], Y, fun i y hy => ?_, by simp [hl], .inr ⟨g, 1, cs.toArray, rfl, hlo, h, Nat.le_refl _, by simp [maxLen], by simp [hl], by simp [← hl]⟩⟩
  cases i with
  | succ i => simp at hy
  | zero => simp at hy; subst hy; exact ⟨cs, rfl, hR⟩
def Apart (A B : an3) : Prop := ∀ g, blk A = some g → blk B ≠ some g
theorem Own.grown {α : Type} {τ : Ty α} {e : TypeId} {lo : Nat} {S : Nat → Prop} {w w' : World} {A B : an3} {c : Nat} {xs : List α} (h : Own τ e lo S w A c xs) (hg : yw w w' (blk B)) (ap : Apart A B) (hS : ∀ g, blk B = some g → ¬ S g) : Own τ e lo S w' A c xs := by
  cases hB : blk B with
  | none => rw [hB] at hg; exact h.ext (Ext.kQ hg (fun k hk => by cases hk))
  | some g =>
    rw [hB] at hg
    exact h.mod (Mod.kQ hg (fun k hk => by cases hk; rfl)) (hS g hB) (fun hA => ap g hA hB)
end Go.Proofs.YtjcklpooaaaglaaGreat
