/- Plain laws on lists, for the functions of the library and of the program. -/
import Derived.Test.YtlnjmkmhmbijmaaGreatM3
set_option linter.all false
namespace Go.Proofs.YtlnjmkmhmbijmaaGreat

theorem take_snoc {α : Type} {xs : List α} {k : Nat} {x : α} (h : xs[k]? = some x) : xs.take (k + 1) = xs.take k ++ [x] := by
  rw [List.take_add_one, h]; rfl
theorem mem_of_get {α : Type} {xs : List α} {k : Nat} {x : α} (h : xs[k]? = some x) : x ∈ xs := List.mem_of_getElem? h

/-- the place of the first of which p holds; -1 if there is none -/
def idxOf {α : Type} (p : α → Bool) : List α → Int
  | [] => -1
  | x :: xs => if p x then 0 else if idxOf p xs < 0 then -1 else idxOf p xs + 1
theorem idxOf_none {α : Type} {p : α → Bool} : ∀ {xs : List α}, (∀ x ∈ xs, p x = false) → idxOf p xs = -1
  | [], _ => rfl
  | x :: xs, h => by
    have h1 := h x (by simp)
    have h2 := idxOf_none (p := p) (xs := xs) (fun y hy => h y (by simp [hy]))
    simp [idxOf, h1, h2]
theorem idxOf_ge {α : Type} {p : α → Bool} : ∀ (xs : List α), -1 ≤ idxOf p xs
  | [] => by simp [idxOf]
  | x :: xs => by
    have := idxOf_ge (p := p) xs
    unfold idxOf
    split
    · omega
    · split <;> omega
theorem idxOf_found {α : Type} {p : α → Bool} : ∀ {xs : List α} {k : Nat} {x : α}, (∀ y ∈ xs.take k, p y = false) → xs[k]? = some x → p x = true → idxOf p xs = (k : Int)
  | [], k, x, _, h, _ => by simp at h
  | y :: xs, 0, x, _, h, hp => by
    simp at h; subst h
    simp [idxOf, hp]
  | y :: xs, k + 1, x, h0, h, hp => by
    have h1 := h0 y (by simp)
    have h2 := idxOf_found (p := p) (xs := xs) (k := k) (x := x) (fun z hz => h0 z (by simp [hz])) (by simpa using h) hp
    simp only [idxOf, h1, h2]
    simp
    omega
theorem idxOf_lt {α : Type} {p : α → Bool} : ∀ (xs : List α), idxOf p xs < xs.length
  | [] => by simp [idxOf]
  | x :: xs => by
    have := idxOf_lt (p := p) xs
    unfold idxOf
    simp only [List.length_cons]
    split
    · omega
    · split <;> omega
/-- what it says, either way -/
theorem idxOf_spec {α : Type} (p : α → Bool) (xs : List α) : (idxOf p xs = -1 ∧ ∀ x ∈ xs, p x = false) ∨ ∃ (k : Nat) (x : α), idxOf p xs = (k : Int) ∧ xs[k]? = some x ∧ p x = true ∧ ∀ y ∈ xs.take k, p y = false := by
  induction xs with
  | nil => left; exact ⟨rfl, fun x hx => by simp at hx⟩
  | cons y xs ih =>
    by_cases hp : p y = true
    · right; exact ⟨0, y, by simp [idxOf, hp], rfl, hp, fun z hz => by simp at hz⟩
    · have hp' : p y = false := by simpa using hp
      rcases ih with ⟨h1, h2⟩ | ⟨k, x, h1, h2, h3, h4⟩
      · left
        refine ⟨by simp [idxOf, hp', h1], fun x hx => ?_⟩
        rcases List.mem_cons.1 hx with rfl | hx
        · exact hp'
        · exact h2 x hx
      · right
        refine ⟨k + 1, x, by simp [idxOf, hp', h1]; omega, by simpa using h2, h3, fun z hz => ?_⟩
        rcases List.mem_cons.1 (by simpa using hz) with rfl | hz
        · exact hp'
        · exact h4 z hz
theorem all_snoc {α : Type} {q : α → Prop} {xs : List α} {k : Nat} {x : α} (h : ∀ y ∈ xs.take k, q y) (hx : xs[k]? = some x) (hq : q x) : ∀ y ∈ xs.take (k + 1), q y := by
  rw [take_snoc hx]
  intro y hy
  rcases List.mem_append.1 hy with h1 | h1
  · exact h y h1
  · simp at h1; rw [h1]; exact hq
theorem all_take {α : Type} {q : α → Prop} {xs : List α} {k : Nat} (h : ∀ y ∈ xs.take k, q y) (hk : xs.length ≤ k) : ∀ y ∈ xs, q y := by
  rw [List.take_of_length_le hk] at h; exact h
/-- how long the first k rows are together -/
def lenTo {α : Type} (xss : List (List α)) (k : Nat) : Nat := ((xss.take k).flatten).length
theorem lenTo_succ {α : Type} {xss : List (List α)} {k : Nat} {s : List α} (h : xss[k]? = some s) : lenTo xss (k + 1) = lenTo xss k + s.length := by
  unfold lenTo; rw [take_snoc h]; simp
theorem lenTo_le {α : Type} (xss : List (List α)) (k : Nat) : lenTo xss k ≤ xss.flatten.length := by
  unfold lenTo
  conv => rhs; rw [← List.take_append_drop k xss]
  rw [List.flatten_append, List.length_append]; omega
theorem flatten_snoc {α : Type} {xss : List (List α)} {k : Nat} {s : List α} (h : xss[k]? = some s) : (xss.take k).flatten ++ s = (xss.take (k + 1)).flatten := by
  rw [take_snoc h]; simp

/-- q holds of each element, at its place -/
def allIdx {α : Type} (q : Nat → α → Bool) (xs : List α) : Bool := (List.range xs.length).all fun i => match xs[i]? with | some x => q i x | none => true
theorem allIdx_iff {α : Type} {q : Nat → α → Bool} {xs : List α} : allIdx q xs = true ↔ ∀ (i : Nat) (x : α), xs[i]? = some x → q i x = true := by
  unfold allIdx
  rw [List.all_eq_true]
  constructor
  · intro h i x hx
    have hi : i < xs.length := (List.getElem?_eq_some_iff.1 hx).1
    have := h i (List.mem_range.2 hi)
    rw [hx] at this
    exact this
  · intro h i hi
    cases hx : xs[i]? with
    | none => rfl
    | some x => exact h i x hx
theorem allIdx_bad {α : Type} {q : Nat → α → Bool} {xs : List α} {i : Nat} {x : α} (hx : xs[i]? = some x) (hq : q i x = false) : allIdx q xs = false := by
  cases h : allIdx q xs with
  | false => rfl
  | true => have := allIdx_iff.1 h i x hx; rw [hq] at this; cases this
theorem idx_snoc {α : Type} {q : Nat → α → Prop} {xs : List α} {k : Nat} (h : ∀ (i : Nat) (x : α), i < k → xs[i]? = some x → q i x) {x : α} (hx : xs[k]? = some x) (hq : q k x) : ∀ (i : Nat) (x : α), i < k + 1 → xs[i]? = some x → q i x := by
  intro i y hi hy
  rcases Nat.lt_or_ge i k with h1 | h1
  · exact h i y h1 hy
  · have : i = k := by omega
    subst this
    rw [hx] at hy
    cases hy
    exact hq

/-! ### search in what rises -/
def low {α : Type} (g : α → Int) (s : List α) : Nat := s.countP fun x => decide (g x < 0)
def hits {α : Type} (g : α → Int) (s : List α) : Bool := match s[low g s]? with | some x => decide (g x = 0) | none => false
def Mono {α : Type} (g : α → Int) (s : List α) : Prop := ∀ (i j : Nat) (x y : α), i ≤ j → s[i]? = some x → s[j]? = some y → g y < 0 → g x < 0
theorem low_le {α : Type} (g : α → Int) (s : List α) : low g s ≤ s.length := List.countP_le_length
theorem low_eq {α : Type} {g : α → Int} {s : List α} {i : Nat} (hi : i ≤ s.length) (h1 : ∀ (a : Nat) (x : α), a < i → s[a]? = some x → g x < 0) (h2 : ∀ (a : Nat) (x : α), i ≤ a → s[a]? = some x → ¬ g x < 0) : low g s = i := by
  have e : low g s = (s.take i).countP (fun x => decide (g x < 0)) + (s.drop i).countP (fun x => decide (g x < 0)) := by
    unfold low; rw [← List.countP_append, List.take_append_drop]
  have e1 : (s.take i).countP (fun x => decide (g x < 0)) = (s.take i).length := by
    rw [List.countP_eq_length]
    intro x hx
    obtain ⟨a, ha, rfl⟩ := List.getElem_of_mem hx
    have hlt : a < i := by simp only [List.length_take] at ha; omega
    exact decide_eq_true (h1 a _ hlt (by rw [List.getElem_take]; exact List.getElem?_eq_getElem _))
  have e2 : (s.drop i).countP (fun x => decide (g x < 0)) = 0 := by
    rw [List.countP_eq_zero]
    intro x hx
    obtain ⟨a, ha, rfl⟩ := List.getElem_of_mem hx
    have hb : i + a < s.length := by simp only [List.length_drop] at ha; omega
    have := h2 (i + a) _ (by omega) (List.getElem?_eq_getElem hb)
    rw [List.getElem_drop]
    simpa using this
  rw [e, e1, e2, List.length_take]; omega

def cmpI (x y : Int) : Int := if x < y then -1 else if y < x then 1 else 0
theorem cmpI_neg {x y : Int} : cmpI x y < 0 ↔ x < y := by
  unfold cmpI; split
  · omega
  · split <;> omega
theorem cmpI_zero {x y : Int} : cmpI x y = 0 ↔ x = y := by
  unfold cmpI; split
  · omega
  · split <;> omega
/-- keys that rise -/
def Up {α : Type} (key : α → Int) (s : List α) : Prop := s.Pairwise fun x y => key x < key y
theorem Up.get {α : Type} {key : α → Int} {s : List α} (h : Up key s) {i j : Nat} {x y : α} (hij : i < j) (hx : s[i]? = some x) (hy : s[j]? = some y) : key x < key y := by
  have hi := lt_of_get hx
  have hj := lt_of_get hy
  have := (List.pairwise_iff_getElem.1 h) i j hi hj hij
  rw [(List.getElem?_eq_some_iff.1 hx).2, (List.getElem?_eq_some_iff.1 hy).2] at this
  exact this
theorem Up.mono {α : Type} {key : α → Int} {s : List α} (h : Up key s) (n : Int) : Mono (fun y => cmpI (key y) n) s := by
  intro i j x y hij hx hy hlt
  simp only [cmpI_neg] at hlt ⊢
  rcases Nat.lt_or_ge i j with h1 | h1
  · have := h.get h1 hx hy; omega
  · have : i = j := by omega
    subst this; rw [hx] at hy; cases hy; exact hlt
theorem hits_iff {α : Type} {key : α → Int} {s : List α} (h : Up key s) (n : Int) : hits (fun y => cmpI (key y) n) s = true ↔ ∃ x ∈ s, key x = n := by
  have hl : ∀ (i : Nat) (x : α), s[i]? = some x → key x = n → low (fun y => cmpI (key y) n) s = i := by
    intro i x hx hk
    refine low_eq (by have := lt_of_get hx; omega) (fun a y ha hy => ?_) (fun a y ha hy => ?_)
    · rw [cmpI_neg]; have := h.get ha hy hx; omega
    · rw [cmpI_neg]
      rcases Nat.lt_or_ge i a with h1 | h1
      · have := h.get h1 hx hy; omega
      · have : a = i := by omega
        subst this; rw [hx] at hy; cases hy; omega
  constructor
  · intro hh
    unfold hits at hh
    split at hh
    · rename_i x hx
      have := of_decide_eq_true hh
      exact ⟨x, mem_of_get hx, cmpI_zero.1 this⟩
    · cases hh
  · rintro ⟨x, hx, hk⟩
    obtain ⟨i, hi, rfl⟩ := List.getElem_of_mem hx
    have h1 := hl i _ (List.getElem?_eq_getElem hi) hk
    unfold hits
    rw [h1, List.getElem?_eq_getElem hi]
    exact decide_eq_true (cmpI_zero.2 hk)
theorem hits_at {α : Type} {key : α → Int} {s : List α} {n : Int} (h : hits (fun y => cmpI (key y) n) s = true) : ∃ x, s[low (fun y => cmpI (key y) n) s]? = some x ∧ key x = n := by
  unfold hits at h
  split at h
  · rename_i x hx; exact ⟨x, hx, cmpI_zero.1 (of_decide_eq_true h)⟩
  · cases h
end Go.Proofs.YtlnjmkmhmbijmaaGreat
