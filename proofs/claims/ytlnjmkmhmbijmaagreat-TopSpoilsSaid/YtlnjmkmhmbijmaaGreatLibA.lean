/- From the reading of an argument as data to what the rules ask of it, and the frame round a law. -/
import Derived.Test.YtlnjmkmhmbijmaaGreatM1
import Derived.ProofKit
import Derived.OpenShut
import Derived.ShutString
import Derived.ChangeOld
import Derived.Deep.Slices
import Derived.Deep.Fields
set_option linter.all false
namespace Go.Proofs.YtlnjmkmhmbijmaaGreat
open Go.ChangeShapes Go.WideShapes Go.ChangeAt Go.RowKit Go.Deep

/-- what reads as data of this type is an element -/
def Reads {α : Type} (P : Program) (e : TypeId) (τ : Ty α) (good : α → Prop) : Prop :=
  ∀ {H : Type} (enc : TypeId × Value → H) (w : World) (base : Nat) (spare : Nat → Bool) (held : Bool) (fuel : Nat) (cs : List Value) (x : DataW H × List MemPlace),
    DataW.trod enc P w base spare held fuel e cs = some x → ∃ y, τ.R Any w y cs ∧ good y

theorem in_i64 {x : Int} (h : (Lit.int .i64 x).wf = true) : InI64 x := by
  simp only [Lit.wf, Bool.and_eq_true, decide_eq_true_eq] at h
  have e1 : IntKind.i64.min = -9223372036854775808 := by decide
  have e2 : IntKind.i64.max = 9223372036854775807 := by decide
  rw [e1, e2] at h
  exact h
theorem in_u32 {x : Int} (h : (Lit.int .u32 x).wf = true) : InU32 x := by
  simp only [Lit.wf, Bool.and_eq_true, decide_eq_true_eq] at h
  have e1 : IntKind.u32.min = 0 := by decide
  have e2 : IntKind.u32.max = 4294967295 := by decide
  rw [e1, e2] at h
  exact h

section
variable {H : Type} {enc : TypeId × Value → H} {P : Program} {w : World} {base : Nat} {spare : Nat → Bool} {held : Bool}
theorem exists_list {α : Type} {q : Nat → α → Prop} : ∀ (n : Nat), (∀ i, i < n → ∃ x, q i x) → ∃ xs : List α, xs.length = n ∧ ∀ (i : Nat) (x : α), xs[i]? = some x → q i x
  | 0, _ => ⟨[], rfl, fun i x hx => by simp at hx⟩
  | n + 1, h => by
    obtain ⟨xs, h1, h2⟩ := exists_list n (fun i hi => h i (by omega))
    obtain ⟨x, hx⟩ := h n (by omega)
    refine ⟨xs ++ [x], by simp [h1], fun i y hy => ?_⟩
    by_cases hi : i < xs.length
    · rw [List.getElem?_append_left hi] at hy
      exact h2 i y hy
    · rw [List.getElem?_append_right (by omega)] at hy
      have h3 : i - xs.length = 0 := by
        rcases Nat.eq_zero_or_pos (i - xs.length) with h | h
        · exact h
        · rw [List.getElem?_eq_none (by simp; omega)] at hy; cases hy
      rw [h3] at hy
      simp at hy
      subst hy
      have : i = n := by omega
      subst this
      exact hx
theorem Reads.slice {α : Type} {e t : TypeId} {τ : Ty α} {good : α → Prop} (hr : Reads P e τ good) (hk : P.cellsOf e = τ.k) (ht : P.underlying t = some (.slice e)) {fuel : Nat} {cs : List Value} {x : DataW H × List MemPlace} (h : DataW.trod enc P w base spare held fuel t cs = some x) :
    ∃ (A : Option Addr) (xs : List α) (c : Nat), cs = [.slice A xs.length c] ∧ Sl τ Any w A c xs ∧ ∀ y ∈ xs, good y := by
  rcases open_slice ht h with ⟨h1, _⟩ | ⟨a, len, cap, m, n, D, Pl, h1, _, h3, h4, h5, _, h7⟩
  · exact ⟨none, [], 0, h1, Sl.none_ τ _ w, fun y hy => by simp at hy⟩
  · have hm : len ≤ m := by rw [h5]; split <;> omega
    obtain ⟨xs, hl, hx⟩ := exists_list (q := fun i y => (∃ cs', τ.R Any w y cs' ∧ ∀ j u, cs'[j]? = some u → w.cell? (a.add (i * τ.k + j)) = some u) ∧ good y) len (fun i hi => by
      obtain ⟨cs', hc, ht'⟩ := h7 i (by omega)
      obtain ⟨y, hy, hg⟩ := hr _ _ _ _ _ _ _ _ ht'
      obtain ⟨_, hcl, hat⟩ := World.cells?_some hc
      refine ⟨y, ⟨cs', hy, fun j u hu => ?_⟩, hg⟩
      have hj : j < P.cellsOf e := by
        have := (List.getElem?_eq_some_iff.1 hu).1
        omega
      have := hat j hj
      rw [Proofs.YtlnjmkmhmbijmaaGreat.add_of_add, hk] at this
      exact this.trans hu)
    subst hl
    refine ⟨some a, xs, cap, h1, ⟨h3, h4, (fun h => by cases h), fun i y hy => ⟨trivial, (hx i y hy).1⟩⟩, fun y hy => ?_⟩
    obtain ⟨i, hi⟩ := List.getElem?_of_mem hy
    exact (hx i y hi).2
theorem reads_int {e : TypeId} (ht : P.underlying e = some (.int .i64)) {τ : Ty Int} (hR : ∀ w x, τ.R Any w x [.int .i64 x]) : Reads P e τ InI64 := fun _ _ _ _ _ _ _ _ h => by
  obtain ⟨n, h1, _, h3⟩ := DataW.trod_int ht h
  subst h1
  exact ⟨n, hR _ n, in_i64 h3⟩
theorem arg_slice {α : Type} {e t : TypeId} {τ : Ty α} {good : α → Prop} (hr : Reads P e τ good) (hk : P.cellsOf e = τ.k) (ht : P.underlying t = some (.slice e)) {r : Reach} {b0 : Nat} {v : Value} {d : DataW H} {p : List MemPlace} (hv : Value.okWide P w r b0 t v) (h : DataW.Trod enc P w base spare held t v d p) :
    ∃ (A : Option Addr) (xs : List α) (c : Nat), v = .slice A xs.length c ∧ Sl τ Any w A c xs ∧ ∀ y ∈ xs, good y := by
  obtain ⟨a, n, c, rfl⟩ := okWide_slice ht hv
  obtain ⟨fuel, hf⟩ := h
  obtain ⟨A, xs, c', h1, h2⟩ := hr.slice hk ht hf
  simp [Value.cells] at h1
  obtain ⟨rfl, rfl, rfl⟩ := h1
  exact ⟨_, _, _, rfl, h2⟩
theorem arg_struct {α : Type} {t : TypeId} {fs : Array Field} {τ : Ty α} {good : α → Prop} (hr : Reads P t τ good) (hs : P.underlying t = some (.struct fs)) {r : Reach} {b0 : Nat} {v : Value} {d : DataW H} {p : List MemPlace} (hv : Value.okWide P w r b0 t v) (h : DataW.Trod enc P w base spare held t v d p) :
    ∃ (x : α) (cs : List Value), v = .agg cs.toArray ∧ τ.R Any w x cs ∧ good x := by
  obtain ⟨cs, rfl, _⟩ := okWide_struct hs hv
  obtain ⟨fuel, hf⟩ := h
  obtain ⟨x, h1, h2⟩ := hr _ _ _ _ _ _ _ _ hf
  exact ⟨x, cs.toList, by simp, h1, h2⟩
theorem get_ok {α : Type} {xs : List α} {n i : Nat} (h : xs.length = n) (hi : i < n) : ∃ y, xs[i]? = some y := ⟨xs[i]'(by omega), List.getElem?_eq_getElem _⟩
end
theorem len_succ {cs : List Value} {n : Nat} (h : cs.length = n + 1) : ∃ c cs', cs = c :: cs' ∧ cs'.length = n := by
  cases cs with
  | nil => simp at h
  | cons c cs => exact ⟨c, cs, rfl, by simpa using h⟩
theorem len_zero {cs : List Value} (h : cs.length = 0) : cs = [] := List.eq_nil_of_length_eq_zero h
end Go.Proofs.YtlnjmkmhmbijmaaGreat
