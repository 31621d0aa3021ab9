/- Plain laws on lists, for the functions of the library and of the program. -/
import Derived.Test.YtaolldhkmnfciaaLib3
set_option linter.all false
namespace Go.Proofs.Ytaolldhkmnfciaa

theorem take_snoc {α : Type} {xs : List α} {k : Nat} {x : α} (h : xs[k]? = some x) : xs.take (k + 1) = xs.take k ++ [x] := by
  rw [List.take_add_one, h]; rfl
theorem mem_of_get {α : Type} {xs : List α} {k : Nat} {x : α} (h : xs[k]? = some x) : x ∈ xs := List.mem_of_getElem? h

/-- the place of the first of which p holds; -1 if there is none -/
def idxOf {α : Type} (p : α → Bool) : List α → Int
  | [] => -1
  | x :: xs => if p x then 0 else if idxOf p xs < 0 then -1 else idxOf p xs + 1
theorem idxOf_none {α : Type} {p : α → Bool} : ∀ {xs : List α}, (∀ x ∈ xs, p x = false) → idxOf p xs = -1
  | [], _ => rfl
  | x :: xs, h => by
    have h1 := h x (by simp)
    have h2 := idxOf_none (p := p) (xs := xs) (fun y hy => h y (by simp [hy]))
    simp [idxOf, h1, h2]
theorem idxOf_ge {α : Type} {p : α → Bool} : ∀ (xs : List α), -1 ≤ idxOf p xs
  | [] => by simp [idxOf]
  | x :: xs => by
    have := idxOf_ge (p := p) xs
    unfold idxOf
    split
    · omega
    · split <;> omega
theorem idxOf_found {α : Type} {p : α → Bool} : ∀ {xs : List α} {k : Nat} {x : α}, (∀ y ∈ xs.take k, p y = false) → xs[k]? = some x → p x = true → idxOf p xs = (k : Int)
  | [], k, x, _, h, _ => by simp at h
  | y :: xs, 0, x, _, h, hp => by
    simp at h; subst h
    simp [idxOf, hp]
  | y :: xs, k + 1, x, h0, h, hp => by
    have h1 := h0 y (by simp)
    have h2 := idxOf_found (p := p) (xs := xs) (k := k) (x := x) (fun z hz => h0 z (by simp [hz])) (by simpa using h) hp
    simp only [idxOf, h1, h2]
    simp
    omega
theorem idxOf_lt {α : Type} {p : α → Bool} : ∀ (xs : List α), idxOf p xs < xs.length
  | [] => by simp [idxOf]
  | x :: xs => by
    have := idxOf_lt (p := p) xs
    unfold idxOf
    simp only [List.length_cons]
    split
    · omega
    · split <;> omega
/-- what it says, either way -/
theorem idxOf_spec {α : Type} (p : α → Bool) (xs : List α) : (idxOf p xs = -1 ∧ ∀ x ∈ xs, p x = false) ∨ ∃ (k : Nat) (x : α), idxOf p xs = (k : Int) ∧ xs[k]? = some x ∧ p x = true ∧ ∀ y ∈ xs.take k, p y = false := by
  induction xs with
  | nil => left; exact ⟨rfl, fun x hx => by simp at hx⟩
  | cons y xs ih =>
    by_cases hp : p y = true
    · right; exact ⟨0, y, by simp [idxOf, hp], rfl, hp, fun z hz => by simp at hz⟩
    · have hp' : p y = false := by simpa using hp
      rcases ih with ⟨h1, h2⟩ | ⟨k, x, h1, h2, h3, h4⟩
      · left
        refine ⟨by simp [idxOf, hp', h1], fun x hx => ?_⟩
        rcases List.mem_cons.1 hx with rfl | hx
        · exact hp'
        · exact h2 x hx
      · right
        refine ⟨k + 1, x, by simp [idxOf, hp', h1]; omega, by simpa using h2, h3, fun z hz => ?_⟩
        rcases List.mem_cons.1 (by simpa using hz) with rfl | hz
        · exact hp'
        · exact h4 z hz
theorem all_snoc {α : Type} {q : α → Prop} {xs : List α} {k : Nat} {x : α} (h : ∀ y ∈ xs.take k, q y) (hx : xs[k]? = some x) (hq : q x) : ∀ y ∈ xs.take (k + 1), q y := by
  rw [take_snoc hx]
  intro y hy
  rcases List.mem_append.1 hy with h1 | h1
  · exact h y h1
  · simp at h1; rw [h1]; exact hq
theorem all_take {α : Type} {q : α → Prop} {xs : List α} {k : Nat} (h : ∀ y ∈ xs.take k, q y) (hk : xs.length ≤ k) : ∀ y ∈ xs, q y := by
  rw [List.take_of_length_le hk] at h; exact h
/-- how long the first k rows are together -/
def lenTo {α : Type} (xss : List (List α)) (k : Nat) : Nat := ((xss.take k).flatten).length
theorem lenTo_succ {α : Type} {xss : List (List α)} {k : Nat} {s : List α} (h : xss[k]? = some s) : lenTo xss (k + 1) = lenTo xss k + s.length := by
  unfold lenTo; rw [take_snoc h]; simp
theorem lenTo_le {α : Type} (xss : List (List α)) (k : Nat) : lenTo xss k ≤ xss.flatten.length := by
  unfold lenTo
  conv => rhs; rw [← List.take_append_drop k xss]
  rw [List.flatten_append, List.length_append]; omega
theorem flatten_snoc {α : Type} {xss : List (List α)} {k : Nat} {s : List α} (h : xss[k]? = some s) : (xss.take k).flatten ++ s = (xss.take (k + 1)).flatten := by
  rw [take_snoc h]; simp

/-- q holds of each element, at its place -/
def allIdx {α : Type} (q : Nat → α → Bool) (xs : List α) : Bool := (List.range xs.length).all fun i => match xs[i]? with | some x => q i x | none => true
theorem allIdx_iff {α : Type} {q : Nat → α → Bool} {xs : List α} : allIdx q xs = true ↔ ∀ (i : Nat) (x : α), xs[i]? = some x → q i x = true := by
  unfold allIdx
  rw [List.all_eq_true]
  constructor
  · intro h i x hx
    have hi : i < xs.length := (List.getElem?_eq_some_iff.1 hx).1
    have := h i (List.mem_range.2 hi)
    rw [hx] at this
    exact this
  · intro h i hi
    cases hx : xs[i]? with
    | none => rfl
    | some x => exact h i x hx
theorem allIdx_bad {α : Type} {q : Nat → α → Bool} {xs : List α} {i : Nat} {x : α} (hx : xs[i]? = some x) (hq : q i x = false) : allIdx q xs = false := by
  cases h : allIdx q xs with
  | false => rfl
  | true => have := allIdx_iff.1 h i x hx; rw [hq] at this; cases this
theorem idx_snoc {α : Type} {q : Nat → α → Prop} {xs : List α} {k : Nat} (h : ∀ (i : Nat) (x : α), i < k → xs[i]? = some x → q i x) {x : α} (hx : xs[k]? = some x) (hq : q k x) : ∀ (i : Nat) (x : α), i < k + 1 → xs[i]? = some x → q i x := by
  intro i y hi hy
  rcases Nat.lt_or_ge i k with h1 | h1
  · exact h i y h1 hy
  · have : i = k := by omega
    subst this
    rw [hx] at hy
    cases hy
    exact hq
end Go.Proofs.Ytaolldhkmnfciaa
