/- Rows that are written in place: copy, clear, one element set; raw cells, of whatever type. -/
import Derived.Test.YtlnjmkmhmbijmaaGreatM3
import Derived.Laws.CopyRow
import Derived.Laws.IdiomCopy
import Derived.Lib.Overlaps
import Derived.Lib.AppendZerosOnto
set_option linter.all false
namespace Go.Proofs.YtlnjmkmhmbijmaaGreat
open Go.RowKit

/-! ### raw cells -/
/-- an element as its cells -/
abbrev Cells (k : Nat) := { u : List Value // u.length = k ∧ ∀ v ∈ u, v.oneCell' = true }
def tRaw (k : Nat) (pos : 0 < k) : Ty (Cells k) := Ty.flat k (fun u => u.1) pos (fun u => u.2.1) (fun u => u.2.2)
def flatC {k : Nat} (us : List (Cells k)) : List Value := (us.map (·.1)).flatten
theorem flatC_append {k : Nat} (us vs : List (Cells k)) : flatC (us ++ vs) = flatC us ++ flatC vs := by simp [flatC]
theorem flatC_length {k : Nat} : ∀ (us : List (Cells k)), (flatC us).length = us.length * k
  | [] => by simp [flatC]
  | u :: us => by
    have := flatC_length us
    simp only [flatC, List.map_cons, List.flatten_cons, List.length_append, List.length_cons] at this ⊢
    rw [this, u.2.1, Nat.add_mul]; omega
theorem flatC_one {k : Nat} {us : List (Cells k)} : ∀ v ∈ flatC us, v.oneCell' = true := by
  intro v hv
  simp only [flatC, List.mem_flatten, List.mem_map] at hv
  obtain ⟨_, ⟨u, _, rfl⟩, h⟩ := hv
  exact u.2.2 v h
theorem flatC_take {k : Nat} : ∀ (us : List (Cells k)) (m : Nat), (flatC us).take (m * k) = flatC (us.take m)
  | [], m => by simp [flatC]
  | u :: us, 0 => by simp [flatC]
  | u :: us, m + 1 => by
    have ih := flatC_take us m
    have h0 := u.2.1
    have e1 : u.1.take ((m + 1) * k) = u.1 := List.take_of_length_le (by rw [h0, Nat.add_mul]; omega)
    have e2 : (m + 1) * k - k = m * k := by rw [Nat.add_mul]; omega
    simp only [flatC, List.map_cons, List.flatten_cons, List.take_succ_cons] at ih ⊢
    rw [List.take_append, e1, h0, e2, ih]
theorem flatC_drop {k : Nat} : ∀ (us : List (Cells k)) (m : Nat), (flatC us).drop (m * k) = flatC (us.drop m)
  | [], m => by simp [flatC]
  | u :: us, 0 => by simp [flatC]
  | u :: us, m + 1 => by
    have ih := flatC_drop us m
    have h0 := u.2.1
    have e1 : u.1.drop ((m + 1) * k) = [] := List.drop_of_length_le (by rw [h0, Nat.add_mul]; omega)
    have e2 : (m + 1) * k - k = m * k := by rw [Nat.add_mul]; omega
    simp only [flatC, List.map_cons, List.flatten_cons, List.drop_succ_cons] at ih ⊢
    rw [List.drop_append, e1, h0, e2, ih, List.nil_append]

section
variable {α : Type} {τ : Ty α} {e : TypeId} {lo : Nat} {S S2 : Nat → Prop} {w w' : World} {A B : Option Addr} {c : Nat} {xs ys : List α} {us vs : List (Cells τ.k)}
theorem own_raw_iff {k : Nat} {pos : 0 < k} {us : List (Cells k)} : Own (tRaw k pos) e lo S w A c us ↔ w.ownsRow lo e k (.slice A us.length c) us.length (flatC us) := by
  constructor
  · rintro ⟨css, hl, hR, hown⟩
    have : css = us.map (·.1) := by
      apply List.ext_getElem?
      intro i
      rw [List.getElem?_map]
      cases hu : us[i]? with
      | none => have := List.getElem?_eq_none_iff.1 hu; simp; omega
      | some u =>
        obtain ⟨cs, h1, h2⟩ := hR i u hu
        have h2 : cs = u.1 := h2
        rw [h1, h2]; rfl
    subst this
    exact hown
  · intro h
    refine ⟨us.map (·.1), by simp, fun i u hu => ⟨u.1, by rw [List.getElem?_map, hu]; rfl, rfl⟩, ?_⟩
    exact h
theorem exists_cells {k : Nat} : ∀ (css : List (List Value)), (∀ cs ∈ css, cs.length = k ∧ ∀ v ∈ cs, v.oneCell' = true) → ∃ us : List (Cells k), us.map (·.1) = css
  | [], _ => ⟨[], rfl⟩
  | cs :: css, h => by
    obtain ⟨us, hu⟩ := exists_cells css (fun c hc => h c (by simp [hc]))
    exact ⟨⟨cs, h cs (by simp)⟩ :: us, by simp [hu]⟩
/-- the elements' cells are these -/
def Rel (τ : Ty α) (S : Nat → Prop) (w : World) (xs : List α) (us : List (Cells τ.k)) : Prop := us.length = xs.length ∧ ∀ (i : Nat) (x : α) (u : Cells τ.k), xs[i]? = some x → us[i]? = some u → τ.R S w x u.1
theorem rel_of {css : List (List Value)} (hl : css.length = xs.length) (hR : ∀ (i : Nat) (x : α), xs[i]? = some x → ∃ cs, css[i]? = some cs ∧ τ.R S w x cs) : ∃ us : List (Cells τ.k), us.map (·.1) = css ∧ Rel τ S w xs us := by
  have hk : ∀ cs ∈ css, cs.length = τ.k ∧ ∀ v ∈ cs, v.oneCell' = true := by
    intro cs hcs
    obtain ⟨i, hi, rfl⟩ := List.getElem_of_mem hcs
    obtain ⟨cs', h3, h4⟩ := hR i (xs[i]'(by omega)) (List.getElem?_eq_getElem _)
    rw [List.getElem?_eq_getElem hi] at h3
    cases h3
    exact ⟨τ.len h4, τ.one h4⟩
  obtain ⟨us, hus⟩ := exists_cells css hk
  refine ⟨us, hus, by rw [← hl, ← hus, List.length_map], ?_⟩
  intro i x u hx hu
  obtain ⟨cs, h1, h2⟩ := hR i x hx
  rw [← hus, List.getElem?_map, hu] at h1
  have h1 : u.1 = cs := by simpa using h1
  rw [h1]
  exact h2
theorem Own.raw (h : Own τ e lo S w A c xs) : ∃ us : List (Cells τ.k), Own (tRaw τ.k τ.pos) e lo No w A c us ∧ Rel τ S w xs us := by
  obtain ⟨css, hl, hR, hown⟩ := h
  obtain ⟨us, h1, h2⟩ := rel_of hl hR
  refine ⟨us, own_raw_iff.2 ?_, h2⟩
  rw [h2.1, flatC, h1]
  exact hown
theorem Own.ofRaw {S' : Nat → Prop} (h : Own (tRaw τ.k τ.pos) e lo S' w A c us) (hr : Rel τ S w xs us) : Own τ e lo S w A c xs := by
  have h1 := own_raw_iff.1 h
  rw [hr.1] at h1
  refine ⟨us.map (·.1), by simp [hr.1], fun i x hx => ?_, by exact h1⟩
  obtain ⟨u, hu⟩ := get_some (xs := us) (i := i) (by rw [hr.1]; exact lt_of_get hx)
  exact ⟨u.1, by rw [List.getElem?_map, hu]; rfl, hr.2 i x u hx hu⟩
theorem Sl.raw (h : Sl τ S w A c xs) : ∃ us : List (Cells τ.k), Sl (tRaw τ.k τ.pos) S w A c us ∧ Rel τ S w xs us := by
  obtain ⟨css, hcss⟩ : ∃ css : List (List Value), css.length = xs.length ∧ ∀ (i : Nat) (x : α), xs[i]? = some x → ∃ cs, css[i]? = some cs ∧ τ.R S w x cs ∧ ∀ j u, cs[j]? = some u → w.cell? ((adr A).add (i * τ.k + j)) = some u := by
    have key : ∀ (ys : List α) (o : Nat), (∀ (i : Nat) (x : α), ys[i]? = some x → ∃ cs, τ.R S w x cs ∧ ∀ j u, cs[j]? = some u → w.cell? ((adr A).add ((o + i) * τ.k + j)) = some u) →
        ∃ css : List (List Value), css.length = ys.length ∧ ∀ (i : Nat) (x : α), ys[i]? = some x → ∃ cs, css[i]? = some cs ∧ τ.R S w x cs ∧ ∀ j u, cs[j]? = some u → w.cell? ((adr A).add ((o + i) * τ.k + j)) = some u := by
      intro ys
      induction ys with
      | nil => intro o _; exact ⟨[], rfl, fun i x hx => by simp at hx⟩
      | cons y ys ih =>
        intro o hy
        obtain ⟨cs, h1, h2⟩ := hy 0 y rfl
        obtain ⟨css, h3, h4⟩ := ih (o + 1) (fun i x hx => by
          obtain ⟨cs, h1, h2⟩ := hy (i + 1) x (by simpa using hx)
          exact ⟨cs, h1, fun j u hu => by have := h2 j u hu; rwa [show o + 1 + i = o + (i + 1) from by omega]⟩)
        refine ⟨cs :: css, by simp [h3], fun i x hx => ?_⟩
        cases i with
        | zero => simp at hx; subst hx; exact ⟨cs, rfl, h1, h2⟩
        | succ i =>
          obtain ⟨cs', h5, h6, h7⟩ := h4 i x (by simpa using hx)
          exact ⟨cs', by simpa using h5, h6, fun j u hu => by have := h7 j u hu; rwa [show o + 1 + i = o + (i + 1) from by omega] at this⟩
    obtain ⟨css, h1, h2⟩ := key xs 0 (fun i x hx => by obtain ⟨_, cs, h1, h2⟩ := h.rows i x hx; exact ⟨cs, h1, fun j u hu => by simpa using h2 j u hu⟩)
    exact ⟨css, h1, fun i x hx => by obtain ⟨cs, h3, h4, h5⟩ := h2 i x hx; exact ⟨cs, h3, h4, fun j u hu => by simpa using h5 j u hu⟩⟩
  obtain ⟨us, h1, h2⟩ := rel_of (τ := τ) (S := S) (w := w) hcss.1 (fun i x hx => by obtain ⟨cs, h3, h4, _⟩ := hcss.2 i x hx; exact ⟨cs, h3, h4⟩)
  refine ⟨us, ⟨by rw [h2.1]; exact h.cap, h.max, h.nil, fun i u hu => ?_⟩, h2⟩
  obtain ⟨x, hx⟩ := get_some (xs := xs) (i := i) (by rw [← h2.1]; exact lt_of_get hu)
  obtain ⟨cs, h3, h4, h5⟩ := hcss.2 i x hx
  have h6 : cs = u.1 := by
    rw [← h1, List.getElem?_map, hu] at h3
    simpa using h3.symm
  subst h6
  exact ⟨(h.rows i x hx).1, u.1, rfl, h5⟩
theorem Rel.append (h : Rel τ S w xs us) (h' : Rel τ S w ys vs) : Rel τ S w (xs ++ ys) (us ++ vs) := by
  refine ⟨by simp [h.1, h'.1], fun i x u hx hu => ?_⟩
  by_cases hi : i < xs.length
  · rw [List.getElem?_append_left hi] at hx
    rw [List.getElem?_append_left (by rw [h.1]; exact hi)] at hu
    exact h.2 i x u hx hu
  · rw [List.getElem?_append_right (by omega)] at hx
    rw [List.getElem?_append_right (by rw [h.1]; omega), h.1] at hu
    exact h'.2 _ x u hx hu
theorem Rel.take (h : Rel τ S w xs us) (m : Nat) : Rel τ S w (xs.take m) (us.take m) := by
  refine ⟨by simp [h.1], fun i x u hx hu => ?_⟩
  rw [List.getElem?_take] at hx hu
  split at hx
  · rename_i hi; rw [if_pos hi] at hu; exact h.2 i x u hx hu
  · cases hx
theorem Rel.drop (h : Rel τ S w xs us) (m : Nat) : Rel τ S w (xs.drop m) (us.drop m) := by
  refine ⟨by simp [h.1], fun i x u hx hu => ?_⟩
  rw [List.getElem?_drop] at hx hu
  exact h.2 _ x u hx hu
theorem Rel.sub {S' : Nat → Prop} (h : Rel τ S w xs us) (hs : ∀ b, S b → S' b) : Rel τ S' w xs us := ⟨h.1, fun i x u hx hu => τ.sub hs (h.2 i x u hx hu)⟩
theorem Rel.ext (h : Rel τ S w xs us) (x : Ext w w') : Rel τ S w' xs us := ⟨h.1, fun i y u hx hu => τ.ext x (h.2 i y u hx hu)⟩
theorem Rel.grown (h : Rel τ S w xs us) (hg : Grw w w' (blk A)) (hS : ∀ g, blk A = some g → ¬ S g) : Rel τ S w' xs us := by
  refine ⟨h.1, fun i y u hx hu => ?_⟩
  have := h.2 i y u hx hu
  cases hA : blk A with
  | none => rw [hA] at hg; exact τ.ext (Ext.of_grown hg (fun k hk => by cases hk)) this
  | some g => rw [hA] at hg; exact τ.mod (Mod.of_grown hg (fun k hk => by cases hk; rfl)) (hS g hA) this
end
/-- blocks other than the row's own -/
def Off (A : Option Addr) : Nat → Prop := fun b => blk A ≠ some b
theorem Off.not {A : Option Addr} : ∀ g, blk A = some g → ¬ Off A g := fun g h k => k h

/-! ### copy -/
section
variable {P : Program} {w : World}
theorem run_copyK {dT sT ty elem : TypeId} {k g o dl dc : Nat} {a : Addr} {sl sc : Nat} {cur cs : List Value} (hu : P.underlying dT = some (.slice elem)) (hs : Size P elem k) {e : TypeId} (hg : Bx w g e cur) (hn : cs.length = Nat.min sl dl * k)
    (hsrc : ∀ j v, cs[j]? = some v → w.cell? (a.add j) = some v) (hfit : o + cs.length ≤ cur.length) (h1 : ∀ v ∈ cs, v.oneCell' = true) :
    (Builtin.copy_ #[dT, sT] ty #[.slice (some ⟨g, o, none⟩) dl dc, .slice (some a) sl sc]).run P w = .ok (goInt (Nat.min sl dl)) (w.setRow g (cur.take o ++ cs ++ cur.drop (o + cs.length)).toArray) := by
  have hl := run_loadCells_list (P := P) w a cs hsrc
  have hst := run_storeCells_at P g o e cs 0 cur.toArray w hg (by simpa using hfit) h1
  simp only [Nat.add_zero] at hst
  simp [Builtin.copy_, run_underlying hu, Builtin.lenOf, Builtin.firstCells, hs w, ← hn, hl, hst]
theorem run_copy0 {dT sT ty elem : TypeId} {k dl dc sl sc : Nat} {A B : Option Addr} (hu : P.underlying dT = some (.slice elem)) (hs : Size P elem k) (hn : Nat.min sl dl = 0) :
    (Builtin.copy_ #[dT, sT] ty #[.slice A dl dc, .slice B sl sc]).run P w = .ok (goInt 0) w := by
  cases A <;> cases B <;> simp [Builtin.copy_, run_underlying hu, Builtin.lenOf, Builtin.firstCells, hs w, hn, loadCells, loadCellsFrom, storeCells]
theorem grownBy_setRow (w : World) (g : Nat) (cs : Array Value) : Grw w (w.setRow g cs) (some g) :=
  ⟨rfl, rfl, rfl, by simp [World.setRow], fun k _ hk => setRow_other w g k cs (fun e => hk (by rw [e])), Nat.le_refl _⟩
end
/-- vs laid over us from lo on -/
def over {k : Nat} (us : List (Cells k)) (lo : Nat) (vs : List (Cells k)) : List (Cells k) := us.take lo ++ vs.take (us.length - lo) ++ us.drop (lo + vs.length)
theorem over_length {k : Nat} {us vs : List (Cells k)} {lo : Nat} (h : lo ≤ us.length) : (over us lo vs).length = us.length := by
  simp only [over, List.length_append, List.length_take, List.length_drop]; omega

theorem nmin (a b : Nat) : Nat.min a b = if a ≤ b then a else b := Nat.min_def
theorem take_splice {β : Type} {L cs : List β} {p N : Nat} (h1 : p + cs.length ≤ N) (h2 : N ≤ L.length) : (L.take p ++ cs ++ L.drop (p + cs.length)).take N = L.take p ++ cs ++ (L.take N).drop (p + cs.length) := by
  have hp : (L.take p).length = p := by simp only [List.length_take]; omega
  have a1 : (L.take p).take N = L.take p := List.take_of_length_le (by omega)
  have a2 : cs.take (N - p) = cs := List.take_of_length_le (by omega)
  rw [List.take_append, List.take_append, hp, a1, a2, List.drop_take, List.length_append, hp]
theorem length_splice_ {β : Type} {L cs : List β} {p : Nat} (h1 : p + cs.length ≤ L.length) : (L.take p ++ cs ++ L.drop (p + cs.length)).length = L.length := by
  simp only [List.length_append, List.length_take, List.length_drop]; omega
theorem Sl.raw_cells {k : Nat} {pos : 0 < k} {S : Nat → Prop} {w : World} {B : Option Addr} {d : Nat} {vs : List (Cells k)} (h : Sl (tRaw k pos) S w B d vs) : ∀ j v, (flatC vs)[j]? = some v → w.cell? ((adr B).add j) = some v := by
  obtain ⟨css, hl, hR, _, _, hc⟩ := h.cells
  have : css = vs.map (·.1) := by
    apply List.ext_getElem?
    intro i
    rw [List.getElem?_map]
    cases hu : vs[i]? with
    | none => have := List.getElem?_eq_none_iff.1 hu; simp; omega
    | some u =>
      obtain ⟨cs, h1, h2⟩ := hR i u hu
      have h2 : cs = u.1 := h2
      rw [h1, h2]; rfl
  subst this
  exact hc
theorem Own.open_ {k : Nat} {pos : 0 < k} {e : TypeId} {lo : Nat} {S : Nat → Prop} {w : World} {A : Option Addr} {c : Nat} {us : List (Cells k)} (h : Own (tRaw k pos) e lo S w A c us) (hc : 0 < c) :
    ∃ g cur, A = some ⟨g, 0, none⟩ ∧ lo ≤ g ∧ Bx w g e cur ∧ us.length ≤ c ∧ c ≤ maxLen ∧ cur.length = c * k ∧ cur.take (us.length * k) = flatC us := by
  have h1 := own_raw_iff.1 h
  rcases h1.2 with ⟨hv, hn⟩ | ⟨g, cap, cur, hv, hg, hh, hnc, hcm, hcs, ht⟩
  · injection hv with hA hn' hc'; omega
  · injection hv with hA hn' hc'
    subst hA hc'
    exact ⟨g, cur.toList, rfl, hg, hh, hnc, hcm, by simpa using hcs, ht⟩
theorem Own.shut_ {k : Nat} {pos : 0 < k} {e : TypeId} {lo : Nat} {S : Nat → Prop} {w : World} {g c : Nat} {us : List (Cells k)} {cur : List Value} (hg : lo ≤ g) (hb : Bx w g e cur) (hnc : us.length ≤ c) (hcm : c ≤ maxLen) (hcs : cur.length = c * k) (ht : cur.take (us.length * k) = flatC us) : Own (tRaw k pos) e lo S w (some ⟨g, 0, none⟩) c us :=
  own_raw_iff.2 ⟨flatC_length us, .inr ⟨g, c, cur.toArray, rfl, hg, hb, hnc, hcm, by simpa using hcs, by simpa using ht⟩⟩
theorem cutA_some {g c lo k : Nat} (h : c ≠ lo) : cutA (some ⟨g, 0, none⟩) c lo k = some ⟨g, lo * k, none⟩ := by
  unfold cutA; rw [if_neg h]; simp [Addr.add_lit]
section
variable {P : Program} {n : Cx} {l : List (Nat × Value)} {w : World} {Q : Exit → Act → World → Prop} {K : Act → World → Prop} {ops : Array Oper} {os : List Oper} {ty : TypeId} {pos : String} {aft : Array Edge} {d : Nat}
theorem run_copyOwn {k : Nat} {kp : 0 < k} {dT sT ty e : TypeId} {lo0 lo c d2 : Nat} {A B : Option Addr} {us vs : List (Cells k)} {S S2 : Nat → Prop} (hu : P.underlying dT = some (.slice e)) (hs : Size P e k)
    (ho : Own (tRaw k kp) e lo0 S w A c us) (hv : Sl (tRaw k kp) S2 w B d2 vs) (hlo : lo ≤ us.length) :
    ∃ w', (Builtin.copy_ #[dT, sT] ty #[.slice (cutA A c lo k) (us.length - lo) (c - lo), .slice B vs.length d2]).run P w = .ok (goInt (Nat.min vs.length (us.length - lo))) w' ∧ Own (tRaw k kp) e lo0 S w' A c (over us lo vs) ∧ Grw w w' (blk A) ∧ w'.heap.size = w.heap.size := by
  by_cases h0 : Nat.min vs.length (us.length - lo) = 0
  · refine ⟨w, by rw [run_copy0 hu hs h0, h0]; rfl, ?_, ⟨rfl, rfl, rfl, Nat.le_refl _, fun _ _ _ => rfl, Nat.le_refl _⟩, rfl⟩
    have : over us lo vs = us := by
      unfold over
      by_cases h1 : vs.length = 0
      · have : vs = [] := List.eq_nil_of_length_eq_zero h1
        subst this; simp
      · have h2 : lo = us.length := by rw [nmin] at h0; split at h0 <;> omega
        subst h2; simp
    rw [this]; exact ho
  · have hm : 0 < us.length - lo ∧ 0 < vs.length := by constructor <;> (rw [nmin] at h0; split at h0 <;> omega)
    have hc : us.length ≤ c := (ho.sl (S' := Any) (fun _ _ => trivial) (fun _ _ => trivial)).cap
    obtain ⟨g, cur, rfl, hg, hb, hnc, hcm, hcl, ht⟩ := ho.open_ (by omega)
    have hB : B = some (adr B) := hv.some_ (i := 0) (x := vs[0]'(by omega)) (List.getElem?_eq_getElem _)
    have hmin : Nat.min vs.length (us.length - lo) = (vs.take (us.length - lo)).length := by rw [List.length_take]; exact Nat.min_comm _ _
    have hcsl : (flatC (vs.take (us.length - lo))).length = Nat.min vs.length (us.length - lo) * k := by rw [flatC_length, hmin]
    have hle : (lo + Nat.min vs.length (us.length - lo)) ≤ us.length := by rw [nmin]; split <;> omega
    have hlek : lo * k + (flatC (vs.take (us.length - lo))).length ≤ us.length * k := by rw [hcsl, ← Nat.add_mul]; exact Nat.mul_le_mul_right _ hle
    have hnk : us.length * k ≤ cur.length := by rw [hcl]; exact Nat.mul_le_mul_right _ hnc
    rw [cutA_some (by omega), hB]
    refine ⟨_, run_copyK hu hs hb hcsl (fun j v hj => hv.raw_cells j v ?_) (by omega) flatC_one, ?_, grownBy_setRow w g _, by simp [World.setRow]⟩
    · rw [← flatC_take, List.getElem?_take] at hj
      split at hj
      · exact hj
      · cases hj
    · refine Own.shut_ hg (setRow_heap w g _ _ e _ hb) (by rw [over_length hlo]; exact hnc) hcm (by rw [length_splice_ (by omega)]; exact hcl) ?_
      rw [over_length hlo, take_splice hlek hnk, ht]
      have e1 : cur.take (lo * k) = flatC (us.take lo) := by
        rw [← flatC_take, ← ht, List.take_take, Nat.min_eq_left (Nat.mul_le_mul_right _ hlo)]
      have e2 : (flatC us).drop (lo * k + (flatC (vs.take (us.length - lo))).length) = flatC (us.drop (lo + vs.length)) := by
        rw [hcsl, ← Nat.add_mul, flatC_drop]
        by_cases h3 : vs.length ≤ us.length - lo
        · rw [nmin, if_pos h3]
        · have h4 : us.drop (lo + (us.length - lo)) = [] := List.drop_of_length_le (by omega)
          have h5 : us.drop (lo + vs.length) = [] := List.drop_of_length_le (by omega)
          rw [nmin, if_neg h3, h4, h5]
      rw [e1, e2, over, flatC_append, flatC_append]
theorem WL.copyOwn {k : Nat} {kp : 0 < k} {dT sT e : TypeId} {lo0 lo c d2 : Nat} {A B : Option Addr} {us vs : List (Cells k)} {S S2 : Nat → Prop} {x y : Operand} (hx : evl l x = some (.slice (cutA A c lo k) (us.length - lo) (c - lo))) (hy : evl l y = some (.slice B vs.length d2))
    (hu : P.underlying dT = some (.slice e)) (hs : Size P e k) (ho : Own (tRaw k kp) e lo0 S w A c us) (hv : Sl (tRaw k kp) S2 w B d2 vs) (hlo : lo ≤ us.length) (hd : Nat.blt d n.size = true)
    (kk : ∀ w' v, Own (tRaw k kp) e lo0 S w' A c (over us lo vs) → Grw w w' (blk A) → w'.heap.size = w.heap.size → WL P n ops Q K os ((d, v) :: l) w') : WL P n ops Q K (⟨some d, .call ⟨.builtin .copy, #[x, y], #[dT, sT]⟩, ty, pos, aft, none⟩ :: os) l w := by
  obtain ⟨w', hrun, h1, h2, h3⟩ := run_copyOwn (P := P) (sT := sT) (ty := ty) hu hs ho hv hlo
  refine WL.val (v := goInt (Nat.min vs.length (us.length - lo))) (fun a _ => wanted_none a) rfl hd (R := fun w2 => w2 = w') (fun a ha => ⟨w', ?_, rfl⟩) fun w2 e => by rw [e]; exact kk w' _ h1 h2 h3
  unfold execOp
  simp only [resolve, Sem.run_bind, Sem.run_pure, Result.andThen_ok, invoke, builtin, List.map_toArray, List.map_cons, List.map_nil, ha.eval hx, ha.eval hy, hrun]

/-- behind the first copy of an insertion in place: what stood from i on stands m further on -/
def Gap {k : Nat} (e : TypeId) (lo0 : Nat) (w : World) (A : Option Addr) (c : Nat) (us : List (Cells k)) (i m : Nat) : Prop :=
  ∃ g cur, A = some ⟨g, 0, none⟩ ∧ lo0 ≤ g ∧ Bx w g e cur ∧ us.length + m ≤ c ∧ c ≤ maxLen ∧ cur.length = c * k ∧ cur.take (i * k) = flatC (us.take i) ∧ (cur.drop ((i + m) * k)).take ((us.length - i) * k) = flatC (us.drop i)
theorem WL.copyShift {k : Nat} {kp : 0 < k} {dT sT e : TypeId} {lo0 i m c : Nat} {A : Option Addr} {us : List (Cells k)} {S : Nat → Prop} {x y : Operand}
    (hx : evl l x = some (.slice (cutA A c (i + m) k) (us.length + m - (i + m)) (c - (i + m)))) (hy : evl l y = some (.slice (cutA A c i k) (us.length + m - i) (c - i)))
    (hu : P.underlying dT = some (.slice e)) (hs : Size P e k) (ho : Own (tRaw k kp) e lo0 S w A c us) (hi : i < us.length) (hm : us.length + m ≤ c) (hd : Nat.blt d n.size = true)
    (kk : ∀ w' v, Gap e lo0 w' A c us i m → Grw w w' (blk A) → w'.heap.size = w.heap.size → WL P n ops Q K os ((d, v) :: l) w') : WL P n ops Q K (⟨some d, .call ⟨.builtin .copy, #[x, y], #[dT, sT]⟩, ty, pos, aft, none⟩ :: os) l w := by
  obtain ⟨g, cur, rfl, hg, hb, hnc, hcm, hcl, ht⟩ := ho.open_ (by omega)
  have hcsl : (flatC (us.drop i)).length = Nat.min (us.length + m - i) (us.length + m - (i + m)) * k := by
    rw [flatC_length, List.length_drop, show Nat.min (us.length + m - i) (us.length + m - (i + m)) = us.length - i from by rw [nmin]; split <;> omega]
  have hik : i * k ≤ us.length * k := Nat.mul_le_mul_right _ (by omega)
  have hsrc : ∀ j v, (flatC (us.drop i))[j]? = some v → w.cell? ((⟨g, i * k, none⟩ : Addr).add j) = some v := by
    intro j v hj
    rw [Addr.add_lit, hb.cell]
    rw [← flatC_drop, List.getElem?_drop, ← ht, List.getElem?_take] at hj
    split at hj
    · exact hj
    · cases hj
  have hfit : (i + m) * k + (flatC (us.drop i)).length ≤ cur.length := by
    rw [flatC_length, List.length_drop, ← Nat.add_mul, hcl]; exact Nat.mul_le_mul_right _ (by omega)
  have hrun := run_copyK (P := P) (sT := sT) (ty := ty) (dc := c - (i + m)) (sc := c - i) hu hs hb hcsl hsrc hfit flatC_one
  rw [cutA_some (by omega)] at hx hy
  refine WL.val (v := goInt (Nat.min (us.length + m - i) (us.length + m - (i + m)))) (fun a _ => wanted_none a) rfl hd (R := fun w2 => w2 = _) (fun a ha => ⟨_, ?_, rfl⟩) fun w2 e => by
    rw [e]
    refine kk _ _ ⟨g, _, rfl, hg, setRow_heap w g _ _ _ _ hb, hm, hcm, by rw [length_splice_ hfit]; exact hcl, ?_, ?_⟩ (grownBy_setRow w g _) (by simp [World.setRow])
    · have h1 : i * k ≤ (i + m) * k := Nat.mul_le_mul_right _ (by omega)
      have h2 : (cur.take ((i + m) * k)).length = (i + m) * k := by simp only [List.length_take]; omega
      rw [List.append_assoc, List.take_append_of_le_length (by omega), List.take_take, Nat.min_eq_left h1, ← flatC_take, ← ht, List.take_take, Nat.min_eq_left hik]
    · have h2 : (cur.take ((i + m) * k)).length = (i + m) * k := by simp only [List.length_take]; omega
      rw [List.append_assoc, List.drop_append_of_le_length (by omega), List.drop_of_length_le (by omega), List.nil_append]
      rw [List.take_append_of_le_length (by rw [flatC_length, List.length_drop]; exact Nat.le_refl _), List.take_of_length_le (by rw [flatC_length, List.length_drop]; exact Nat.le_refl _)]
  unfold execOp
  simp only [resolve, Sem.run_bind, Sem.run_pure, Result.andThen_ok, invoke, builtin, List.map_toArray, List.map_cons, List.map_nil, ha.eval hx, ha.eval hy, hrun]
theorem WL.copyGap {k : Nat} {kp : 0 < k} {dT sT e : TypeId} {lo0 i m c d2 : Nat} {A B : Option Addr} {us vs : List (Cells k)} {S S2 : Nat → Prop} {x y : Operand}
    (hx : evl l x = some (.slice (cutA A c i k) (us.length + m - i) (c - i))) (hy : evl l y = some (.slice B vs.length d2))
    (hu : P.underlying dT = some (.slice e)) (hs : Size P e k) (ho : Gap e lo0 w A c us i m) (hv : Sl (tRaw k kp) S2 w B d2 vs) (hm : vs.length = m) (h0 : 0 < m) (hi : i < us.length) (hd : Nat.blt d n.size = true)
    (kk : ∀ w' v, Own (tRaw k kp) e lo0 S w' A c (us.take i ++ vs ++ us.drop i) → Grw w w' (blk A) → w'.heap.size = w.heap.size → WL P n ops Q K os ((d, v) :: l) w') : WL P n ops Q K (⟨some d, .call ⟨.builtin .copy, #[x, y], #[dT, sT]⟩, ty, pos, aft, none⟩ :: os) l w := by
  obtain ⟨g, cur, rfl, hg, hb, hnc, hcm, hcl, h1, h2⟩ := ho
  have hB : B = some (adr B) := hv.some_ (i := 0) (x := vs[0]'(by omega)) (List.getElem?_eq_getElem _)
  have hmin : Nat.min vs.length (us.length + m - i) = m := by rw [nmin]; split <;> omega
  have hcsl : (flatC vs).length = Nat.min vs.length (us.length + m - i) * k := by rw [flatC_length, hmin, hm]
  have hfit : i * k + (flatC vs).length ≤ cur.length := by rw [flatC_length, ← Nat.add_mul, hcl]; exact Nat.mul_le_mul_right _ (by omega)
  have hrun := run_copyK (P := P) (sT := sT) (ty := ty) (dc := c - i) (sc := d2) hu hs hb hcsl hv.raw_cells hfit flatC_one
  rw [cutA_some (by omega)] at hx
  rw [hB] at hy
  have hlen : (us.take i ++ vs ++ us.drop i).length = us.length + m := by simp only [List.length_append, List.length_take, List.length_drop]; omega
  refine WL.val (v := goInt (Nat.min vs.length (us.length + m - i))) (fun a _ => wanted_none a) rfl hd (R := fun w2 => w2 = _) (fun a ha => ⟨_, ?_, rfl⟩) fun w2 e => by
    rw [e]
    refine kk _ _ (Own.shut_ hg (setRow_heap w g _ _ _ _ hb) (by omega) hcm (by rw [length_splice_ hfit]; exact hcl) ?_) (grownBy_setRow w g _) (by simp [World.setRow])
    rw [hlen, take_splice (by rw [flatC_length, ← Nat.add_mul]; exact Nat.mul_le_mul_right _ (by omega)) (by rw [hcl]; exact Nat.mul_le_mul_right _ hnc), h1, flatC_append, flatC_append]
    congr 1
    rw [flatC_length, ← Nat.add_mul, hm, List.drop_take, ← Nat.sub_mul, show us.length + m - (i + m) = us.length - i from by omega, h2]
  unfold execOp
  simp only [resolve, Sem.run_bind, Sem.run_pure, Result.andThen_ok, invoke, builtin, List.map_toArray, List.map_cons, List.map_nil, ha.eval hx, ha.eval hy, hrun]
end

/-! ### zero values appended -/
structure ElemZero (P : Program) (e : TypeId) (k bytes : Nat) : Prop where
  ex : ∃ (i : TypeInfo) (z : Value), P.info? e = some i ∧ i.zero = some z ∧ i.size = k ∧ i.bytes = bytes ∧ z.cells.size = k ∧ ∀ v ∈ z.cells.toList, v.oneCell' = true
theorem flatC_rep {k : Nat} (u : Cells k) : ∀ (m j : Nat), j < m * k → (flatC (List.replicate m u))[j]? = u.1[j % k]?
  | 0, j, h => by omega
  | m + 1, j, h => by
    have h0 := u.2.1
    have e : flatC (List.replicate (m + 1) u) = u.1 ++ flatC (List.replicate m u) := by simp [flatC, List.replicate_succ]
    rw [e]
    by_cases hj : j < k
    · rw [List.getElem?_append_left (by omega), Nat.mod_eq_of_lt hj]
    · have h3 : j - k < m * k := by rw [Nat.add_mul] at h; omega
      have h4 : j % k = (j - k) % k := Nat.mod_eq_sub_mod (by omega)
      rw [List.getElem?_append_right (by omega), h0, flatC_rep u m (j - k) h3, h4]
theorem zeroCells_flat {k : Nat} (z : Array Value) (u : Cells k) (hu : z.toList = u.1) (m : Nat) (kp : 0 < k) : (Builtin.zeroCells z m).toList = flatC (List.replicate m u) := by
  have hz : z.size = k := by rw [← Array.length_toList, hu, u.2.1]
  apply List.ext_getElem?
  intro j
  by_cases hj : j < m * k
  · rw [flatC_rep u m j hj]
    have hlt : j % k < k := Nat.mod_lt _ kp
    have h2 : u.1[j % k]? = some (z[j % k]'(by omega)) := by
      rw [← hu, Array.getElem?_toList, Array.getElem?_eq_getElem (by omega)]
    rw [h2]
    simp only [Builtin.zeroCells, Array.toList_map, List.getElem?_map, Array.getElem?_toList, hz]
    rw [Array.getElem?_eq_getElem (by simpa using hj)]
    simp only [Array.getElem_range, Option.map_some]
    rw [getElem!_pos z (j % k) (by omega)]
  · have h1 : (flatC (List.replicate m u))[j]? = none := List.getElem?_eq_none (by rw [flatC_length, List.length_replicate]; omega)
    have h2 : (Builtin.zeroCells z m).toList[j]? = none := List.getElem?_eq_none (by simp only [Builtin.zeroCells, Array.length_toList, Array.size_map, Array.size_range, hz]; omega)
    rw [h1, h2]
section
variable {P : Program} {n : Cx} {l : List (Nat × Value)} {w : World} {Q : Exit → Act → World → Prop} {K : Act → World → Prop} {ops : Array Oper} {os : List Oper} {ty : TypeId} {pos : String} {aft : Array Edge} {d : Nat}
theorem WL.appendGrow {k : Nat} {kp : 0 < k} {t e ti : TypeId} {bytes m c : Nat} {A : Option Addr} {us : List (Cells k)} {S : Nat → Prop} {s x : Operand} (hs : evl l s = some (.slice A us.length c)) (hx : evl l x = some (.int .i64 (m : Int))) (hT : P.underlying t = some (.slice e)) (hi : P.underlying ti = some (.int .i64))
    (hz : ElemZero P e k bytes) (hu : Sl (tRaw k kp) S w A c us) (hc : c < us.length + m) (h0 : 0 < m) (h1 : us.length ≤ 1000000) (h2 : m ≤ 1000000) (hby : Nat.ble bytes 1000 = true) (hd : Nat.blt d n.size = true)
    (kk : ∀ g c' w' (z : Cells k), Own (tRaw k kp) e w.heap.size No w' (some ⟨g, 0, none⟩) c' (us ++ List.replicate m z) → Ext w w' → WL P n ops Q K os ((d, .slice (some ⟨g, 0, none⟩) (us.length + m) c') :: l) w') :
    WL P n ops Q K (⟨some d, .call ⟨.builtin .append, #[s, x], #[t, ti]⟩, ty, pos, aft, none⟩ :: os) l w := by
  obtain ⟨i, z, z1, z2, z3, z4, z5, z6⟩ := hz.ex
  have hb : bytes ≤ 1000 := Nat.le_of_ble_eq_true hby
  have hmul : (us.length + m) * bytes ≤ 2000000 * 1000 := Nat.mul_le_mul (by omega) hb
  have hmul2 : m * bytes ≤ 1000000 * 1000 := Nat.mul_le_mul h2 hb
  have hold : (Builtin.firstCells i.size us.length (.slice A us.length c)).run P w.drew = .ok (flatC us).toArray w.drew := by
    rw [z3]
    by_cases hn : us.length = 0
    · have : us = [] := List.eq_nil_of_length_eq_zero hn
      subst this
      cases A <;> simp [Builtin.firstCells, loadCells, loadCellsFrom, flatC]
    · have hA : A = some (adr A) := hu.some_ (i := 0) (x := us[0]'(by omega)) (List.getElem?_eq_getElem _)
      rw [hA]
      exact run_firstCells_some w.drew k us.length (adr A) _ _ (flatC us) (flatC_length us) (fun j v hj => hu.raw_cells j v hj)
  obtain ⟨W2, hW2, hrun⟩ : ∃ W2, W2 = w.drew.alloc (.cells ((flatC us).toArray ++ Builtin.zeroCells z.cells m ++ Builtin.zeroCells z.cells (grownCap w (us.length + m) c e - (us.length + m))) e) ∧ (Builtin.append_ #[t, ti] ty #[.slice A us.length c, .int .i64 (m : Int)]).run P w = .ok (.slice (some ⟨w.heap.size, 0, none⟩) (us.length + m) (grownCap w (us.length + m) c e)) W2 := ⟨_, rfl, Lib.run_append_grow_zeros (P := P) w t ti ty e i z .i64 .i64 hT hi z1 z2 A us.length c (flatC us) hold m h0 (by omega) hc (by omega) (by rw [z4]; omega) (growslice_fits hc (by rw [z4]; omega))⟩
  refine WL.val (v := .slice (some ⟨w.heap.size, 0, none⟩) (us.length + m) (grownCap w (us.length + m) c e)) (fun a _ => wanted_none a) rfl hd (R := fun w2 => w2 = W2) (fun a ha => ⟨W2, ?_, rfl⟩) fun w2 e' => by
    rw [e', hW2]
    have hzc : z.cells.toList.length = k := by rw [Array.length_toList]; exact z5
    refine kk _ _ _ ⟨z.cells.toList, hzc, z6⟩ ?_ ⟨rfl, rfl, rfl, by simp, fun k hk => Below.heap_alloc w.drew _ k hk, Nat.le_succ _⟩
    have hf := fun m => zeroCells_flat (k := k) z.cells ⟨z.cells.toList, hzc, z6⟩ rfl m kp
    have hge := grownCap_ge w (us.length + m) c e
    have hle := grownCap_le_maxLen w (us.length + m) c e (by simp only [maxLen]; omega)
    refine Own.shut_ (cur := flatC us ++ flatC (List.replicate m ⟨z.cells.toList, hzc, z6⟩) ++ flatC (List.replicate (grownCap w (us.length + m) c e - (us.length + m)) ⟨z.cells.toList, hzc, z6⟩)) (Nat.le_refl _) ?_ ?_ ?_ ?_ ?_
    · rw [← hf, ← hf]
      have ea : (flatC us).toArray ++ Builtin.zeroCells z.cells m ++ Builtin.zeroCells z.cells (grownCap w (us.length + m) c e - (us.length + m)) = (flatC us ++ (Builtin.zeroCells z.cells m).toList ++ (Builtin.zeroCells z.cells (grownCap w (us.length + m) c e - (us.length + m))).toList).toArray := by
        apply Array.toList_inj.1; simp
      rw [ea]
      exact Bx.new w.drew e _
    · simpa using hge
    · exact hle
    · simp only [List.length_append, flatC_length, List.length_replicate, ← Nat.add_mul]; congr 1; omega
    · rw [List.take_append_of_le_length (by simp only [List.length_append, flatC_length, List.length_replicate, ← Nat.add_mul]; exact Nat.le_refl _), List.take_of_length_le (by simp only [List.length_append, flatC_length, List.length_replicate, ← Nat.add_mul]; exact Nat.le_refl _), flatC_append]
  unfold execOp
  simp only [resolve, Sem.run_bind, Sem.run_pure, Result.andThen_ok, invoke, builtin, List.map_toArray, List.map_cons, List.map_nil, ha.eval hs, ha.eval hx, hrun]
end

/-! ### one element of an own row is written -/
def overlay (cs : List Value) (f : Nat) (ds : List Value) : List Value := cs.take f ++ ds ++ cs.drop (f + ds.length)
section
variable {P : Program} {n : Cx} {l : List (Nat × Value)} {w : World} {Q : Exit → Act → World → Prop} {K : Act → World → Prop} {ops : Array Oper} {os : List Oper} {ty : TypeId} {pos : String} {aft : Array Edge} {d : Nat}
theorem Own.whole {α : Type} {τ : Ty α} {e : TypeId} {lo : Nat} {S : Nat → Prop} {A : Option Addr} {c : Nat} {xs : List α} (h : Own τ e lo S w A c xs) (hc : 0 < xs.length) :
    ∃ g cur us, A = some ⟨g, 0, none⟩ ∧ lo ≤ g ∧ Bx w g e cur ∧ xs.length ≤ c ∧ c ≤ maxLen ∧ cur.length = c * τ.k ∧ cur.take (xs.length * τ.k) = flatC us ∧ Rel τ S w xs us := by
  obtain ⟨us, h1, h2⟩ := h.raw
  have hcap := (h1.sl (S' := Any) (fun _ _ => trivial) (fun _ _ => trivial)).cap
  obtain ⟨g, cur, h3, h4, h5, h6, h7, h8, h9⟩ := h1.open_ (by rw [h2.1] at hcap; omega)
  rw [h2.1] at h6 h9
  exact ⟨g, cur, us, h3, h4, h5, h6, h7, h8, h9, h2⟩
theorem flatC_set {k : Nat} (us : List (Cells k)) (i f : Nat) (u v : Cells k) (ds : List Value) (hu : us[i]? = some u) (hv : v.1 = overlay u.1 f ds) (hf : f + ds.length ≤ k) :
    (flatC us).take (i * k + f) ++ ds ++ (flatC us).drop (i * k + f + ds.length) = flatC (us.set i v) := by
  have hi : i < us.length := lt_of_get hu
  have hsplit : us = us.take i ++ u :: us.drop (i + 1) := by
    rw [← List.getElem?_eq_some_iff.1 hu |>.2]
    rw [List.getElem_cons_drop, List.take_append_drop]
  have hset : us.set i v = us.take i ++ v :: us.drop (i + 1) := List.set_eq_take_append_cons_drop ▸ by rw [if_pos hi]
  have h0 := u.2.1
  have hl : (flatC (us.take i)).length = i * k := by rw [flatC_length, List.length_take, Nat.min_eq_left (by omega)]
  have e : flatC us = flatC (us.take i) ++ (u.1 ++ flatC (us.drop (i + 1))) := by
    conv => lhs; rw [hsplit]
    rw [flatC_append]; simp [flatC]
  rw [hset, flatC_append, e]
  have a1 : (flatC (us.take i)).take (i * k + f) = flatC (us.take i) := List.take_of_length_le (by omega)
  have a2 : (flatC (us.take i)).drop (i * k + f + ds.length) = [] := List.drop_of_length_le (by omega)
  rw [List.take_append, List.drop_append, hl, a1, a2, List.nil_append]
  rw [show i * k + f - i * k = f from by omega, show i * k + f + ds.length - i * k = f + ds.length from by omega]
  rw [List.take_append_of_le_length (by omega), List.drop_append_of_le_length (by omega)]
  simp only [flatC, List.map_cons, List.flatten_cons, hv, overlay, List.append_assoc]
theorem run_storeElem {α : Type} {τ : Ty α} {e t : TypeId} {lo f i c : Nat} {S : Nat → Prop} {A : Option Addr} {xs : List α} {x x' : α} {v : Value} {ds : List Value} (ho : Own τ e lo S w A c xs) (hx : xs[i]? = some x) (hv : v.cells = ds.toArray) (hs : Size P t ds.length)
    (hf : f + ds.length ≤ τ.k) (h1 : ∀ u ∈ ds, u.oneCell' = true) (hS : ∀ g, blk A = some g → ¬ S g) (hR : ∀ w' cs, Grw w w' (blk A) → τ.R S w x cs → τ.R S w' x' (overlay cs f ds)) :
    ∃ w', (Instr.storeAt t (.pointer (some ((adr A).add (i * τ.k + f)))) v).run P w = .ok () w' ∧ Own τ e lo S w' A c (xs.set i x') ∧ Grw w w' (blk A) ∧ w'.heap.size = w.heap.size := by
  have hi := lt_of_get hx
  obtain ⟨g, cur, us, rfl, hg, hb, hnc, hcm, hcl, ht, hrel⟩ := ho.whole (by omega)
  have hik : i * τ.k + τ.k ≤ xs.length * τ.k := by rw [← Nat.succ_mul]; exact Nat.mul_le_mul_right _ hi
  have hnk : xs.length * τ.k ≤ cur.length := by rw [hcl]; exact Nat.mul_le_mul_right _ hnc
  have had : (adr (some ⟨g, 0, none⟩)).add (i * τ.k + f) = ⟨g, i * τ.k + f, none⟩ := by simp [adr, Addr.add_lit]
  have hst := run_storeCells_at P g (i * τ.k + f) e ds 0 cur.toArray w hb (by simpa using by omega) h1
  have hgr := grownBy_setRow w g (cur.take (i * τ.k + f) ++ ds ++ cur.drop (i * τ.k + f + ds.length)).toArray
  obtain ⟨u, hu⟩ := get_some (xs := us) (i := i) (by rw [hrel.1]; exact hi)
  have hRu := hR _ _ hgr (hrel.2 i x u hx hu)
  refine ⟨_, ?_, ?_, hgr, by simp [World.setRow]⟩
  · rw [had]
    simp only [Instr.storeAt, Instr.sureAddr, storeVar, hv, Sem.run_bind, Sem.run_pure, Result.andThen_ok, hs w]
    simp only [List.size_toArray, ne_eq, not_true_eq_false, if_false, Sem.run_bind, Sem.run_pure, Result.andThen_ok]
    rw [hst]
    simp
  · let v' : Cells τ.k := ⟨overlay u.1 f ds, τ.len hRu, τ.one hRu⟩
    have hlen : (us.set i v').length = xs.length := by rw [List.length_set, hrel.1]
    refine Own.ofRaw (S' := No) (us := us.set i v') (Own.shut_ hg (setRow_heap w g _ _ e _ hb) (by rw [hlen]; exact hnc) hcm (by rw [length_splice_ (by omega)]; exact hcl) ?_) ⟨by rw [hlen, List.length_set], ?_⟩
    · rw [hlen, take_splice (by omega) hnk, ht, ← flatC_set us i f u v' ds hu rfl hf]
      congr 2
      rw [← ht, List.take_take, Nat.min_eq_left (by omega)]
    · intro j y u' hy hu'
      by_cases hj : i = j
      · subst hj
        rw [List.getElem?_set_self hi] at hy
        rw [List.getElem?_set_self (by rw [hrel.1]; exact hi)] at hu'
        cases hy; cases hu'
        exact hRu
      · rw [List.getElem?_set_ne hj] at hy hu'
        exact (hrel.grown hgr hS).2 j y u' hy hu'
theorem WL.storeElem {α : Type} {τ : Ty α} {e t : TypeId} {lo f i c : Nat} {S : Nat → Prop} {A : Option Addr} {xs : List α} {x x' : α} {v : Value} {ds : List Value} {p y : Operand} {q : Addr} (hp : evl l p = some (.pointer (some q))) (hy : evl l y = some v) (hq : q = (adr A).add (i * τ.k + f))
    (ho : Own τ e lo S w A c xs) (hx : xs[i]? = some x) (hv : v.cells = ds.toArray) (hs : Size P t ds.length)
    (hf : f + ds.length ≤ τ.k) (h1 : ∀ u ∈ ds, u.oneCell' = true) (hS : ∀ g, blk A = some g → ¬ S g) (hR : ∀ w' cs, Grw w w' (blk A) → τ.R S w x cs → τ.R S w' x' (overlay cs f ds))
    (kk : ∀ w', Own τ e lo S w' A c (xs.set i x') → Grw w w' (blk A) → w'.heap.size = w.heap.size → WL P n ops Q K os l w') : WL P n ops Q K (⟨none, .store t p y, ty, pos, aft, none⟩ :: os) l w := by
  obtain ⟨w', hrun, h2, h3, h4⟩ := run_storeElem (P := P) (f := f) (x' := x') ho hx hv hs hf h1 hS hR
  exact WL.unit (fun a _ => wanted_none a) rfl (R := fun w2 => w2 = w') (fun a ha => ⟨w', by unfold execOp; simp [ha.eval hp, ha.eval hy, hq, hrun], rfl⟩) fun w2 e => by rw [e]; exact kk w' h2 h3 h4

/-! ### the part of an own row behind its elements is cleared -/
theorem run_clearSpare {k : Nat} {kp : 0 < k} {t e ty : TypeId} {bytes lo c m : Nat} {S : Nat → Prop} {A : Option Addr} {us : List (Cells k)} (hT : P.underlying t = some (.slice e)) (hz : ElemZero P e k bytes) (ho : Own (tRaw k kp) e lo S w A c us) (hm : us.length + m ≤ c) :
    ∃ w', (Builtin.clear_ #[t] ty #[.slice (cutA A c us.length k) m (c - us.length)]).run P w = .ok (.tuple #[]) w' ∧ Own (tRaw k kp) e lo S w' A c us ∧ Grw w w' (blk A) ∧ w'.heap.size = w.heap.size := by
  by_cases h0 : m = 0
  · subst h0
    refine ⟨w, ?_, ho, ⟨rfl, rfl, rfl, Nat.le_refl _, fun _ _ _ => rfl, Nat.le_refl _⟩, rfl⟩
    cases hc : cutA A c us.length k <;> simp [Builtin.clear_, run_underlying hT]
  · obtain ⟨g, cur, rfl, hg, hb, hnc, hcm, hcl, ht⟩ := ho.open_ (by omega)
    obtain ⟨i, z, z1, z2, z3, z4, z5, z6⟩ := hz.ex
    have hzc : z.cells.toList.length = k := by rw [Array.length_toList]; exact z5
    have hf := zeroCells_flat (k := k) z.cells ⟨z.cells.toList, hzc, z6⟩ rfl m kp
    have hlen : (Builtin.zeroCells z.cells m).toList.length = m * k := by rw [hf, flatC_length, List.length_replicate]
    have hfit : us.length * k + (Builtin.zeroCells z.cells m).toList.length ≤ cur.length := by rw [hlen, ← Nat.add_mul, hcl]; exact Nat.mul_le_mul_right _ hm
    have hst := run_storeCells_at P g (us.length * k) e (Builtin.zeroCells z.cells m).toList 0 cur.toArray w hb (by simpa using hfit) (by rw [hf]; exact flatC_one)
    simp only [Nat.add_zero] at hst
    rw [cutA_some (by omega)]
    refine ⟨_, ?_, Own.shut_ hg (setRow_heap w g _ (cur.take (us.length * k) ++ (Builtin.zeroCells z.cells m).toList ++ cur.drop (us.length * k + (Builtin.zeroCells z.cells m).toList.length)).toArray e _ hb) hnc hcm (by rw [length_splice_ hfit]; exact hcl) ?_, grownBy_setRow w g _, by simp [World.setRow]⟩
    · obtain ⟨m', rfl⟩ : ∃ m', m = m' + 1 := ⟨m - 1, by omega⟩
      have hzv : ∀ w, (zeroValue e).run P w = .ok z w := fun w => by simp [zeroValue, typeInfo, z1, z2]
      simp only [Builtin.clear_, List.getElem?_toArray, List.getElem?_cons_zero, Sem.run_bind, Sem.run_pure, Result.andThen_ok, run_underlying hT, hzv]
      rw [hst]
      simp
    · rw [List.append_assoc, List.take_append_of_le_length (by simp only [List.length_take]; omega), List.take_take, Nat.min_self, ht]
theorem WL.clearSpare {k : Nat} {kp : 0 < k} {t e : TypeId} {bytes lo c m : Nat} {S : Nat → Prop} {A : Option Addr} {us : List (Cells k)} {x : Operand} (hx : evl l x = some (.slice (cutA A c us.length k) m (c - us.length))) (hT : P.underlying t = some (.slice e)) (hz : ElemZero P e k bytes)
    (ho : Own (tRaw k kp) e lo S w A c us) (hm : us.length + m ≤ c) (hd : Nat.blt d n.size = true)
    (kk : ∀ w', Own (tRaw k kp) e lo S w' A c us → Grw w w' (blk A) → w'.heap.size = w.heap.size → WL P n ops Q K os ((d, .tuple #[]) :: l) w') : WL P n ops Q K (⟨some d, .call ⟨.builtin .clear, #[x], #[t]⟩, ty, pos, aft, none⟩ :: os) l w := by
  obtain ⟨w', hrun, h1, h2, h3⟩ := run_clearSpare (P := P) (ty := ty) hT hz ho hm
  refine WL.val (v := .tuple #[]) (fun a _ => wanted_none a) rfl hd (R := fun w2 => w2 = w') (fun a ha => ⟨w', ?_, rfl⟩) fun w2 e => by rw [e]; exact kk w' h1 h2 h3
  unfold execOp
  simp only [resolve, Sem.run_bind, Sem.run_pure, Result.andThen_ok, invoke, builtin, List.map_toArray, List.map_cons, List.map_nil, ha.eval hx, hrun]
end

/-! ### cuts of a row of which only the length counts; calls of what the model itself answers -/
section
variable {P : Program} {n : Cx} {l : List (Nat × Value)} {w : World} {t e : TypeId} {x : Operand}
theorem Ev.cutToN {k : Nat} {A : Option Addr} {m c hi : Nat} {kh : IntKind} {zh : Int} {yh : Operand} (hu : P.underlying t = some (.slice e)) (hs : Size P e k) (hx : evl l x = some (.slice A m c)) (hh : evl l yh = some (.int kh zh))
    (h2 : zh = (hi : Int)) (h4 : hi ≤ c) : Ev P n l w (.slice t x none (some yh) none) (.slice A hi c) := fun o a w' ho ha _ => by
  have hcz := cutA_zero A c k
  unfold cutA at hcz
  unfold execOp; rw [ho]
  have h6 : (Instr.sliceAt t (.slice A m c) none (some (.int kh zh)) none).run P w' = .ok (.slice A hi c) w' := by
    rw [run_sliceAt_slice w' t _ _ _ _ (elem_of hu), run_slice_h w' t A m c (elem_of hu) kh zh (by omega) (by omega), elem_is hu, hs w', h2]
    simp only [Result.andThen_ok, sliced, Int.toNat_natCast, Nat.sub_zero]
    rw [hcz]
  simp [ha.eval hx, ha.eval hh, h6]
theorem Ev.cutFromN {k : Nat} {A : Option Addr} {m c lo : Nat} {kl : IntKind} {zl : Int} {yl : Operand} (hu : P.underlying t = some (.slice e)) (hs : Size P e k) (hx : evl l x = some (.slice A m c)) (hl : evl l yl = some (.int kl zl))
    (h1 : zl = (lo : Int)) (h3 : lo ≤ m) (h5 : m ≤ c) : Ev P n l w (.slice t x (some yl) none none) (.slice (cutA A c lo k) (m - lo) (c - lo)) := fun o a w' ho ha _ => by
  unfold execOp; rw [ho]
  have h6 : (Instr.sliceAt t (.slice A m c) (some (.int kl zl)) none none).run P w' = .ok (.slice (cutA A c lo k) (m - lo) (c - lo)) w' := by
    rw [run_sliceAt_slice w' t _ _ _ _ (elem_of hu), run_slice_l w' t A m c (elem_of hu) kl zl (by omega) (by omega), elem_is hu, hs w', h1]
    simp [sliced, cutA]
  simp [ha.eval hx, ha.eval hl, h6]
end
section
variable {P : Program} {n : Cx} {l : List (Nat × Value)} {w : World} {Q : Exit → Act → World → Prop} {K : Act → World → Prop} {ops : Array Oper} {os : List Oper} {ty : TypeId} {pos : String} {aft : Array Edge} {d : Nat}
theorem WL.extern {fop : Operand} {args : List Operand} {tys : Array TypeId} {f : FuncId} {caps vs all : List Value} {v : Value}
    (hf : evl l fop = some (.func (.func f) #[] caps.toArray)) (hargs : evls l args = some vs) (hall : vs ++ caps = all) (hc : (callFunc f all.toArray).run P w = .ok (.value v) w) (hd : Nat.blt d n.size = true)
    (k : WL P n ops Q K os ((d, v) :: l) w) : WL P n ops Q K (⟨some d, .call ⟨.value fop, args.toArray, tys⟩, ty, pos, aft, none⟩ :: os) l w := by
  refine WL.val (v := v) (fun a _ => wanted_none a) rfl hd (R := fun w2 => w2 = w) (fun a ha => ⟨w, ?_, rfl⟩) fun w2 e => by rw [e]; exact k
  unfold execOp
  have h1 := ha.eval hf
  have h2 := ha.evals hargs
  simp only [resolve, h1, Deferred.ofValue, Sem.run_bind, Sem.run_pure, Result.andThen_ok, invoke]
  have : (#[] ++ Array.map a.eval args.toArray ++ caps.toArray : Array Value) = all.toArray := by
    rw [List.map_toArray, h2, ← hall]; simp
  rw [this]
  exact hc
theorem shape_bx {g : Nat} {t : TypeId} {cs : List Value} (h : Bx w g t cs) : w.shape? g = some (t, cs.length) := by
  unfold Bx at h; simp [World.shape?, h]
/-- slices.overlaps at two rows of cells -/
theorem run_overlaps_bx {f : FuncId} {fn : Func} {tS tR e : TypeId} {k gv g : Nat} {cs ds : List Value} {ev e2 : TypeId} {la ca ob lb cb : Nat} (hf : P.funcs[f]? = some fn) (hname : (fn.name == "runtime.NumGoroutine") = false) (hb : fn.body.isNone = true) (hn : Extern.findNext fn = none)
    (he : Extern.find fn = some (Extern.SlicesOverlaps.overlaps #[tS, tS] #[tR])) (ht : P.underlying tS = some (.slice e)) (hs : Size P e k) (hv : Bx w gv ev cs) (hg : Bx w g e2 ds) (hne : gv ≠ g) (h0 : 0 < ds.length) :
    (callFunc f #[.slice (some ⟨gv, 0, none⟩) la ca, .slice (some ⟨g, ob, none⟩) lb cb]).run P w = .ok (.value (.bool false)) w := by
  rw [run_callFunc_extern hf hname hb hn he]
  rw [Lib.run_overlaps_apart w tS tR e ht k hs ⟨gv, 0, none⟩ ⟨g, ob, none⟩ la ca lb cb hne ev e2 cs.length ds.length (shape_bx hv) (shape_bx hg) (by omega) (hv.frozen 0) (hv.frozen _)]
  rfl
end
/-! ### a region that draws, in which all but its last operation look at no memory -/
section
variable {P : Program} {n : Cx} {l l' : List (Nat × Value)} {w w' : World} {Q : Exit → Act → World → Prop} {K : Act → World → Prop} {ops : Array Oper} {fuel : Nat} {listed : Array Bool}
theorem WH.takeP (i : Nat) {op : Op} {ty : TypeId} {pos : String} {aft : Array Edge} {d : Nat} {v : Value} (hi : ops[i]? = some ⟨some d, op, ty, pos, aft, none⟩) (hs : Region.noSelect ops = true) (hf : Region.free .any ops listed i = true)
    (hr : (Region.ready .any ops listed).contains i = true) (he : ∀ w0, Ev P n l w0 op v) (hd : Nat.blt d n.size = true) (k : WH P n ops K (fun _ => True) fuel (listed.setIfInBounds i true) ((d, v) :: l) w) :
    WH P n ops K (fun _ => True) (fuel + 1) listed l w := fun a ha =>
  wpAnyH_take hi hs hf hr (fun _ _ _ h => h) (.inl ⟨wanted_none a, fun w' _ => he w' _ a w' rfl ha (Ext.refl w')⟩) trivial (k _ (ha.put hd v))
end

/-! ### insertion, as lists -/
theorem ins_end {α : Type} (us : List α) (u : α) {i : Nat} (h : i = us.length) : us.take i ++ [u] ++ us.drop i = us ++ [u] := by subst h; simp
theorem over_at {k : Nat} (a r vs : List (Cells k)) (i m : Nat) (h1 : a.length = i) (h2 : vs.length = m) (h3 : m ≤ r.length) : over (a ++ r) i vs = a ++ vs ++ r.drop m := by
  subst h1 h2
  have h4 : (a ++ r).take a.length = a := List.take_left' rfl
  have h5 : vs.take ((a ++ r).length - a.length) = vs := List.take_of_length_le (by rw [List.length_append]; omega)
  have h6 : (a ++ r).drop (a.length + vs.length) = r.drop vs.length := by
    have h7 : a.drop (a.length + vs.length) = [] := List.drop_of_length_le (by omega)
    rw [List.drop_append, h7, List.nil_append]
    congr 1; omega
  unfold over
  rw [h4, h5, h6]
theorem ins_over {k : Nat} (us : List (Cells k)) (u z : Cells k) {i : Nat} (h : i ≤ us.length) : over (over (us.take i ++ List.replicate (us.length + 1 - i) z) i [u]) (i + 1) (us.drop i) = us.take i ++ [u] ++ us.drop i := by
  have h1 : (us.take i).length = i := by simp only [List.length_take]; omega
  rw [over_at (us.take i) (List.replicate (us.length + 1 - i) z) [u] i 1 h1 rfl (by rw [List.length_replicate]; omega), List.drop_replicate]
  rw [over_at (us.take i ++ [u]) _ (us.drop i) (i + 1) (us.length - i) (by rw [List.length_append, h1]; rfl) (by rw [List.length_drop]) (by rw [List.length_replicate]; omega), List.drop_replicate]
  rw [show us.length + 1 - i - 1 - (us.length - i) = 0 from by omega, List.replicate_zero, List.append_nil]
theorem Ext.grown_own {w w1 w2 w3 : World} {g : Nat} {X : Option Nat} (e : Ext w w1) (h2 : Grw w1 w2 (some g)) (h3 : Grw w2 w3 (some g)) (hg : w.heap.size ≤ g) : Grw w w3 X :=
  have e2 : Ext w w3 := (e.mod (Mod.of_grown h2 (fun k hk => by cases hk; rfl)) hg).mod (Mod.of_grown h3 (fun k hk => by cases hk; rfl)) hg
  ⟨e2.os, e2.tape, e2.output, e2.size, fun k hk _ => e2.block k hk, e2.drawn⟩
theorem grownBy_same {w w1 w2 : World} {X : Option Nat} (h1 : Grw w w1 X) (h2 : Grw w1 w2 X) : Grw w w2 X :=
  ⟨h2.os.trans h1.os, h2.tape.trans h1.tape, h2.output.trans h1.output, Nat.le_trans h1.size h2.size, fun k hk hn => (h2.block k (Nat.lt_of_lt_of_le hk h1.size) hn).trans (h1.block k hk hn), Nat.le_trans h1.drawn h2.drawn⟩

theorem Rel.one {α : Type} {τ : Ty α} {S : Nat → Prop} {w : World} {x : α} {u : Cells τ.k} (h : τ.R S w x u.1) : Rel τ S w [x] [u] := by
  refine ⟨rfl, fun i y v hy hv => ?_⟩
  cases i with
  | zero => simp at hy hv; subst hy hv; exact h
  | succ i => simp at hy

/-! ### halves -/
section
variable {P : Program} {n : Cx} {l : List (Nat × Value)} {w : World} {t ty d : TypeId} {x y : Operand} {k k' : IntKind} {m : Nat}
theorem Ev.convNat (hs : (P.underlying t).isSome = true) (hd : P.underlying d = some (.int (P.intKind d))) (hk : P.intKind d = k') (hx : evl l x = some (.int k (m : Int))) (hw : k'.wrap (m : Int) = (m : Int)) : Ev P n l w (.convert t d x) (.int k' (m : Int)) := by
  have := Ev.convInt (P := P) (n := n) (w := w) hs hd hk hx
  rwa [hw] at this
theorem wrap_nat_u64 (h : m ≤ 9223372036854775807) : IntKind.u64.wrap (m : Int) = (m : Int) := by rw [IntKind.wrap_u64]; omega
theorem wrap_nat_i64 (h : m ≤ 9223372036854775807) : IntKind.i64.wrap (m : Int) = (m : Int) := (I64.mk (by omega) (by omega)).wrap
theorem Ev.shr1 (hx : evl l x = some (.int .u64 (m : Int))) (hy : evl l y = some (.int .u64 1)) : Ev P n l w (.binOp .shr t x y ty) (.int .u64 ((m / 2 : Nat) : Int)) := fun o a w' ho ha _ => by
  unfold execOp; rw [ho]
  have e : ((m / 2 : Nat) : Int) = (m : Int) / 2 ^ (1 : Int).toNat := by simp
  rw [e]
  simp [ha.eval hx, ha.eval hy, eqGuard_shr, binOp_shr, shift_shr .u64 .u64 (m : Int) 1 (by omega) (by decide)]
end
end Go.Proofs.YtlnjmkmhmbijmaaGreat
