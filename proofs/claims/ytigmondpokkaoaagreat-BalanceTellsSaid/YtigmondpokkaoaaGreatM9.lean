/- Sorting by the library: the library's own contracts (slices.Sort, slices.SortFunc), said in the words of resources. -/
import Derived.Test.YtigmondpokkaoaaGreatM7
import Derived.Shelf.SlSortCmp.NoneTotal
import Derived.Shelf.Sort.Plain
import Derived.Shelf.Slices.In.SortNone
import Derived.Sort.OwnSortedInts
import Derived.Shelf.Slices.CompactI
set_option linter.all false
namespace Go.Proofs.YtigmondpokkaoaaGreat
open Go.RowKit

theorem Ext.grow_eq {w w' : World} (e : Ext w w') : ∃ (q : Nat) (os' : Array Obj), w' = Go.Sort.grow (w.drewN q) os' := by
  refine ⟨w'.drawn - w.drawn, w'.heap.extract w.heap.size w'.heap.size, ?_⟩
  obtain ⟨e1, e2, e3, e4, e5, e6⟩ := e
  obtain ⟨h, t, d, o, out⟩ := w
  obtain ⟨h', t', d', o', out'⟩ := w'
  simp only at e1 e2 e3 e4 e5 e6
  subst e1 e2 e3
  have hd : d + (d' - d) = d' := by omega
  have hh : h ++ h'.extract h.size h'.size = h' := by
    apply Array.ext_getElem?
    intro i
    by_cases hi : i < h.size
    · rw [Array.getElem?_append_left hi]; exact (e5 i hi).symm
    · rw [Array.getElem?_append_right (by omega), Array.getElem?_extract]
      by_cases hj : i < h'.size
      · rw [if_pos (by omega)]; congr 1; omega
      · rw [if_neg (by omega), Array.getElem?_eq_none (by omega)]
  simp only [Go.Sort.grow, World.drewN, hd, hh]

theorem flatK_list {α : Type} [Inhabited α] {enc : α → List Value} {k : Nat} (hk : ∀ x, (enc x).length = k) (ys : List α) : (Go.Sort.flatK enc k ys.toArray).toList = (ys.map enc).flatten := by
  apply List.ext_getElem?
  intro j
  have hl : ((ys.map enc).flatten).length = ys.length * k := by
    induction ys with
    | nil => simp
    | cons y ys ih => simp only [List.map_cons, List.flatten_cons, List.length_append, hk, ih, List.length_cons, Nat.add_mul, Nat.one_mul]; omega
  by_cases hj : j < ys.length * k
  · have hk0 : 0 < k := by
      rcases Nat.eq_zero_or_pos k with h | h
      · subst h; omega
      · exact h
    have hlt : j / k < ys.length := (Nat.div_lt_iff_lt_mul hk0).2 hj
    have hm : j % k < k := Nat.mod_lt _ hk0
    obtain ⟨y, hy⟩ := get_some (xs := ys) hlt
    have hyj : ys[j / k]! = y := by rw [List.getElem!_eq_getElem?_getD, hy]; rfl
    have hc : (enc y)[j % k]? = some (enc y)[j % k]! := by
      obtain ⟨u, hu⟩ := get_some (xs := enc y) (i := j % k) (by rw [hk]; exact hm)
      rw [List.getElem!_eq_getElem?_getD, hu]; rfl
    have h2 := flat_at (k := k) (ys.map enc) (by intro cs hcs; obtain ⟨x, _, rfl⟩ := List.mem_map.1 hcs; exact hk x) (j / k) (enc y) (by rw [List.getElem?_map, hy]; rfl) (j % k) _ hc
    rw [Nat.div_add_mod' j k] at h2
    rw [h2, Array.getElem?_toList]
    have hj' : j < (Go.Sort.flatK enc k ys.toArray).size := by rw [Go.Sort.size_flatK]; simpa using hj
    rw [Array.getElem?_eq_getElem hj', ← getElem!_pos _ j hj', Go.Sort.get_flatK enc k ys.toArray j (by simpa using hj)]
    simp [hyj]
  · rw [List.getElem?_eq_none (by rw [Array.length_toList, Go.Sort.size_flatK]; simpa using Nat.le_of_not_lt hj), List.getElem?_eq_none (by rw [hl]; omega)]

theorem holds_block {w : World} {g : Nat} {cur F : Array Value} {e : TypeId} (hb : w.heap[g]? = some (.cells cur e (0, 0))) (ht : cur.toList.take F.size = F.toList) : Go.Sort.Holds id w g 0 F := by
  intro j hj
  refine ⟨?_, by simp [World.frozen?, hb]⟩
  have h1 : (cur.toList.take F.size)[j]? = F.toList[j]? := by rw [ht]
  rw [List.getElem?_take_of_lt hj] at h1
  simp only [World.cell?, hb, Nat.zero_add]
  simp only [Option.isSome_none, Bool.false_eq_true, if_false]
  rw [← Array.getElem?_toList, h1, Array.getElem?_toList, getElem!_pos F j hj, Array.getElem?_eq_getElem hj]; rfl
theorem heap_sorted {w : World} {g n : Nat} {os : Array Obj} {cur F : Array Value} {e : TypeId} {fr : Nat × Nat} (hb : w.heap[g]? = some (.cells cur e fr)) :
    (Go.Sort.grow (Go.Sort.putRow id (Go.Sort.ahead w n) g 0 F) os).heap[g]? = some (.cells (Go.Sort.putCells id 0 F cur) e fr) := by
  have hg : g < w.heap.size := (Array.getElem?_eq_some_iff.1 hb).1
  rw [Go.Sort.heap_grow_old _ _ (by simpa using hg)]
  simp [Go.Sort.putRow, Go.Sort.mapBlock, Go.Sort.ahead, Array.getElem?_modify, hb, Go.Sort.onCells]
theorem wr_sorted {α : Type} [Inhabited α] {enc : α → Value} {b w : World} {W : Nat → Prop} {g n : Nat} {os : Array Obj} {F : Array α} (hW : W g) : Wr b w (Go.Sort.grow (Go.Sort.putRow enc (Go.Sort.ahead w n) g 0 F) os) W := by
  refine ⟨rfl, rfl, rfl, by simp, fun k hk hne => ?_, ?_⟩
  · rw [Go.Sort.heap_grow_old _ _ (by simpa using hk)]
    have : g ≠ k := fun e => hne (e ▸ hW)
    simp [Go.Sort.putRow, Go.Sort.mapBlock, Go.Sort.ahead, Array.getElem?_modify, this]
  · show w.drawn ≤ w.drawn + n; omega
theorem take_sorted (cur F : Array Value) (h : F.size ≤ cur.size) : (Go.Sort.putCells id 0 F cur).toList.take F.size = F.toList := by
  apply List.ext_getElem?
  intro j
  by_cases hj : j < F.size
  · rw [List.getElem?_take_of_lt hj, Array.getElem?_toList, Array.getElem?_toList]
    simp [Go.Sort.putCells, hj, show j < cur.size by omega]
  · rw [List.getElem?_take_eq_none (by omega), List.getElem?_eq_none (by simp; omega)]

section
variable {P : Program} {b w : World} {S : Nat → Prop} {F : List Res}
/-- the row of a flat own slice that is not nil -/
theorem Own.flat_open {α : Type} {k : Nat} {enc : α → List Value} {pos : 0 < k} {hl : ∀ x, (enc x).length = k} {h1 : ∀ x, ∀ u ∈ enc x, u.oneCell' = true} {e : TypeId} {lo c : Nat} {A : Option Addr} {xs : List α} (h : Own (Ty.flat k enc pos hl h1) e lo S w A c xs) (hne : xs ≠ []) :
    ∃ g cur, A = some ⟨g, 0, none⟩ ∧ lo ≤ g ∧ w.heap[g]? = some (.cells cur e (0, 0)) ∧ xs.length ≤ c ∧ c ≤ maxLen ∧ cur.size = c * k ∧ cur.toList.take (xs.length * k) = (xs.map enc).flatten := by
  obtain ⟨css, c1, c2, c3⟩ := h
  have hcss : css = xs.map enc := by
    apply List.ext_getElem?
    intro i
    rw [List.getElem?_map]
    cases hi : xs[i]? with
    | none => have := List.getElem?_eq_none_iff.1 hi; rw [List.getElem?_eq_none (by omega)]; rfl
    | some x =>
      obtain ⟨cs, h5, h6⟩ := c2 i x hi
      rw [h5, show cs = enc x from h6]; rfl
  rcases c3.2 with ⟨hv, hn⟩ | ⟨g, cap, cur, hv, hg, hh, hnc, hcm, hcs, ht⟩
  · exact absurd (List.eq_nil_of_length_eq_zero hn) hne
  · injection hv with hA hn' hc'
    subst hA hc'
    exact ⟨g, cur, rfl, hg, hh, hnc, hcm, hcs, by rw [← hcss]; exact ht⟩
theorem Own.flat_shut {α : Type} {k : Nat} {enc : α → List Value} {pos : 0 < k} {hl : ∀ x, (enc x).length = k} {h1 : ∀ x, ∀ u ∈ enc x, u.oneCell' = true} {e : TypeId} {lo c g : Nat} {xs : List α} {cur : Array Value} (hg : lo ≤ g) (hh : w.heap[g]? = some (.cells cur e (0, 0))) (hnc : xs.length ≤ c) (hcm : c ≤ maxLen) (hcs : cur.size = c * k) (ht : cur.toList.take (xs.length * k) = (xs.map enc).flatten) :
    Own (Ty.flat k enc pos hl h1) e lo S w (some ⟨g, 0, none⟩) c xs := by
  have hlen : ∀ ys : List α, ((ys.map enc).flatten).length = ys.length * k := by
    intro ys
    induction ys with
    | nil => simp
    | cons y ys ih => simp only [List.map_cons, List.flatten_cons, List.length_append, hl, ih, List.length_cons, Nat.add_mul, Nat.one_mul]; omega
  exact ⟨xs.map enc, by simp, fun i x hx => ⟨enc x, by rw [List.getElem?_map, hx]; rfl, rfl⟩, hlen xs, .inr ⟨g, c, cur, rfl, hg, hh, hnc, hcm, hcs, ht⟩⟩
/-- a world of the sort's: the row holds these; all else is as it was -/
theorem Hp.sorted {α : Type} [Inhabited α] {k : Nat} {enc : α → List Value} {pos : 0 < k} {hl : ∀ x, (enc x).length = k} {h1 : ∀ x, ∀ u ∈ enc x, u.oneCell' = true} {e c g n : Nat} {xs ys : List α} {os : Array Obj} {cur : Array Value} (H : Hp b S w (rOwn (Ty.flat k enc pos hl h1) e (some ⟨g, 0, none⟩) c xs :: F))
    (hh : w.heap[g]? = some (.cells cur e (0, 0))) (hnc : xs.length ≤ c) (hcm : c ≤ maxLen) (hcs : cur.size = c * k) (hy : ys.length = xs.length) :
    Hp b S (sortWorldK enc k w g 0 n ys.toArray os) (rOwn (Ty.flat k enc pos hl h1) e (some ⟨g, 0, none⟩) c ys :: F) := by
  have hsz : (Go.Sort.flatK enc k ys.toArray).size = ys.length * k := by rw [Go.Sort.size_flatK]; simp
  have hle : ys.length * k ≤ c * k := Nat.mul_le_mul_right k (by omega)
  refine H.put (r' := rOwn (Ty.flat k enc pos hl h1) e (some ⟨g, 0, none⟩) c ys) (wr_sorted (show (rOwn (Ty.flat k enc pos hl h1) e (some ⟨g, 0, none⟩) c xs).W g from rfl)) (fun q hq => .inl hq) ?_
  refine Own.flat_shut (Nat.zero_le _) (heap_sorted hh) (by omega) hcm (by simp [Go.Sort.putCells, hcs]) ?_
  have h2 := take_sorted cur (Go.Sort.flatK enc k ys.toArray) (by rw [hsz, hcs]; exact hle)
  rw [hsz, flatK_list hl] at h2
  exact h2
open Go.Sort in
theorem sortf {ρ : Go.Shelf.Ren} (L : SlLaysF0.n6 P ρ) {α : Type} [Inhabited α] {k : Nat} {enc : α → List Value} {pos : 0 < k} {hl : ∀ x, (enc x).length = k} {h1 : ∀ x, ∀ u ∈ enc x, u.oneCell' = true} (aE : ∀ w, (isAgg (ρ.t 24)).run P w = .ok true w) (zE : ∀ w, (Go.sizeOf (ρ.t 24)).run P w = .ok k w)
    {cf : α → α → Int} (hO : SWO (ltOf cf)) {g : Nat} {cb : Array Value} {e c : Nat} {A : Option Addr} {xs : List α} (H : Hp b S w (rOwn (Ty.flat k enc pos hl h1) e A c xs :: F)) (eg : ∀ args w, (callFunc g args).run P w = .ok (.enter g args) w) (hn : xs.length ≤ 1000000) (hne : xs ≠ [])
    (hcmp : ∀ (w' : World) (ys : List α), ys.length = xs.length → Hp b S w' (rOwn (Ty.flat k enc pos hl h1) e A c ys :: F) → ∀ x y : α, Rets P g (#[.agg (enc x).toArray, .agg (enc y).toArray] ++ cb) w' fun v w'' => v = .int .i64 (cf x y) ∧ Ext w' w'') :
    Rets P (ρ.f 6) #[.slice A xs.length c, .func (.func g) #[] cb] w fun v w' => v = .tuple #[] ∧ ∃ ys : List α, ys.Perm xs ∧ (ys.Pairwise fun x y => ¬ cf y x < 0) ∧ Hp b S w' (rOwn (Ty.flat k enc pos hl h1) e A c ys :: F) := by
  obtain ⟨q, cur, rfl, hq, hh, hnc, hcm, hcs, ht⟩ := Own.flat_open (H.ow s0) hne
  have hqs : q < w.heap.size := (Array.getElem?_eq_some_iff.1 hh).1
  have hH : Go.Sort.HoldsK enc k w q 0 xs.toArray := by
    refine holds_block hh ?_
    rw [flatK_list hl, Go.Sort.size_flatK]; simpa using ht
  have hc : CmpLays P g cb enc k cf q 0 xs.toArray.size w := by
    intro m os dk hdk x y
    obtain ⟨ys, rfl⟩ : ∃ ys : List α, dk = ys.toArray := ⟨dk.toList, by simp⟩
    have hy : ys.length = xs.length := by simpa using hdk
    have h3 := hcmp _ ys hy (H.sorted (n := m) (os := os) hh hnc hcm hcs hy) x y
    refine Calls.mono h3 ?_
    rintro e' w' ⟨v, rfl, rfl, ex⟩
    obtain ⟨q', os', hw⟩ := ex.grow_eq
    exact ⟨rfl, q', os', hw⟩
  have h4 := AnyQ.slices_SortFunc L k aE zE enc hl h1 cf hO g cb q 0 c xs.toArray w eg hc hH hqs (by simp; omega)
  simp only [List.size_toArray] at h4
  refine Calls.mono h4 ?_
  rintro e' w' ⟨rfl, d', n, os, hp, hs, rfl⟩
  obtain ⟨ys, rfl⟩ : ∃ ys : List α, d' = ys.toArray := ⟨d'.toList, by simp⟩
  have hsz : ys.length = xs.length := by simpa using hp.1
  refine ⟨_, rfl, rfl, ys, ?_, ?_, H.sorted hh hnc hcm hcs hsz⟩
  · have := hp.2.2
    simp only [List.size_toArray, List.extract_toArray, List.extract_eq_drop_take, List.drop_zero, Nat.sub_zero] at this
    rwa [List.take_of_length_le (by omega), List.take_of_length_le (Nat.le_refl _)] at this
  · rw [List.pairwise_iff_getElem]
    intro i j hi hj hij hlt
    have := hs i j (Nat.zero_le _) hij (by omega)
    simp only [ltOf] at this
    rw [getElem!_pos ys.toArray j (by simpa using hj), getElem!_pos ys.toArray i (by simpa using hi)] at this
    simp only [List.getElem_toArray] at this
    simp at this
    omega
open Go.Sort in
theorem sortf0 {ρ : Go.Shelf.Ren} (L : SlLaysF0.n6 P ρ) {α : Type} {τ : Ty α} {fv : Value} {e c : Nat} {A : Option Addr} {xs : List α} (H : Hp b S w (rOwn τ e A c xs :: F)) (hne : xs = []) :
    Rets P (ρ.f 6) #[.slice A xs.length c, fv] w fun v w' => v = .tuple #[] ∧ Hp b S w' (rOwn τ e A c xs :: F) := by
  subst hne
  refine Calls.mono (AnyF.slices_SortFunc_none L A c fv w) ?_
  rintro e' w' ⟨rfl, rfl⟩
  exact ⟨_, rfl, rfl, H⟩
theorem ints_flat : ∀ zs : List Int, (zs.map fun x : Int => [Value.int .i64 x]).flatten = zs.map (Value.int .i64)
  | [] => rfl
  | z :: zs => by simp [ints_flat zs]
open Go.Sort in
theorem sorti {ρ : Go.Shelf.Ren} (L : Lays.n189 P ρ) {e c : Nat} {A : Option Addr} {xs : List Int} {hl : ∀ x : Int, ([Value.int .i64 x] : List Value).length = 1} {pos : 0 < 1} {h1 : ∀ x : Int, ∀ u ∈ ([Value.int .i64 x] : List Value), u.oneCell' = true} (H : Hp b S w (rOwn (Ty.flat 1 (fun x : Int => [.int .i64 x]) pos hl h1) e A c xs :: F)) (hn : xs.length ≤ 1000000) :
    Rets P (ρ.f 189) #[.slice A xs.length c] w fun v w' => v = .tuple #[] ∧ Hp b S w' (rOwn (Ty.flat 1 (fun x : Int => [.int .i64 x]) pos hl h1) e A c (xs.mergeSort fun x y => decide (x ≤ y)) :: F) := by
  by_cases hne : xs = []
  · subst hne
    refine Calls.mono (Any.slices_Sort_int_none L A c w) ?_
    rintro e' w' ⟨rfl, rfl⟩
    exact ⟨_, rfl, rfl, by simpa using H⟩
  · obtain ⟨q, cur, rfl, hq, hh, hnc, hcm, hcs, ht⟩ := Own.flat_open (H.ow s0) hne
    have hqs : q < w.heap.size := (Array.getElem?_eq_some_iff.1 hh).1
    have hH : Holds (Value.int .i64) w q 0 xs.toArray := holds_of_blockI hh (by rw [← ints_flat, ← ht, Nat.mul_one])
    refine Calls.mono (Any.slices_Sort_int L q 0 c xs w hH hqs (by omega)) ?_
    rintro e' w' ⟨rfl, n, os, rfl⟩
    have hsz : (xs.mergeSort fun x y => decide (x ≤ y)).length = xs.length := List.length_mergeSort _
    refine ⟨_, rfl, rfl, H.put (r' := rOwn (Ty.flat 1 (fun x : Int => [.int .i64 x]) pos hl h1) e (some ⟨q, 0, none⟩) c (xs.mergeSort fun x y => decide (x ≤ y))) (wr_sorted (show (rOwn (Ty.flat 1 (fun x : Int => [.int .i64 x]) pos hl h1) e (some ⟨q, 0, none⟩) c xs).W q from rfl)) (fun q hq => .inl hq) ?_⟩
    refine Own.flat_shut (Nat.zero_le _) (heap_sortedI _ hh) (by omega) hcm (by simp [putCells, hcs]) ?_
    rw [Nat.mul_one, ints_flat]
    exact take_putCellsI cur _ (by rw [hsz, hcs]; omega)
open Go.Sort in
theorem compi {ρ : Go.Shelf.Ren} (L : Lays2.n20 P ρ) {e c : Nat} {A : Option Addr} {xs : List Int} {hl : ∀ x : Int, ([Value.int .i64 x] : List Value).length = 1} {pos : 0 < 1} {h1 : ∀ x : Int, ∀ u ∈ ([Value.int .i64 x] : List Value), u.oneCell' = true} (H : Hp b S w (rOwn (Ty.flat 1 (fun x : Int => [.int .i64 x]) pos hl h1) e A c xs :: F)) (hn : xs.length ≤ 1000000) :
    Rets P (ρ.f 20) #[.slice A xs.length c] w fun v w' => v = .slice A (Lib.compact xs).length c ∧ Hp b S w' (rOwn (Ty.flat 1 (fun x : Int => [.int .i64 x]) pos hl h1) e A c (Lib.compact xs) :: F) := by
  by_cases hne : xs = []
  · subst hne
    refine Calls.mono (Any.slices_Compact_int_empty L A c w) ?_
    rintro e' w' ⟨rfl, rfl⟩
    exact ⟨_, rfl, rfl, H⟩
  · obtain ⟨q, cur, rfl, hq, hh, hnc, hcm, hcs, ht⟩ := Own.flat_open (H.ow s0) hne
    have hH : Holds (Value.int .i64) w q 0 xs.toArray := holds_of_blockI hh (by rw [← ints_flat, ← ht, Nat.mul_one])
    refine Calls.mono (Any.slices_Compact_int L q 0 c xs w hH (by omega) hnc) ?_
    rintro e' w' ⟨rfl, n, rfl⟩
    have hle : (Lib.compact xs).length ≤ xs.length := by
      simp only [Lib.compact, Lib.compactUpTo, List.length_map]
      exact Nat.le_trans (List.length_filter_le _ _) (by simp)
    generalize hzs : Lib.compact xs ++ List.replicate (xs.length - (Lib.compact xs).length) 0 = zs
    have hzl : zs.length = xs.length := by rw [← hzs]; simp; omega
    have hg : (putRow (Value.int .i64) (Go.Sort.ahead w n) q 0 zs.toArray) = grow (putRow (Value.int .i64) (Go.Sort.ahead w n) q 0 zs.toArray) #[] := (grow_empty _).symm
    refine ⟨_, rfl, rfl, ?_⟩
    rw [hg]
    refine H.put (r' := rOwn (Ty.flat 1 (fun x : Int => [.int .i64 x]) pos hl h1) e (some ⟨q, 0, none⟩) c (Lib.compact xs)) (wr_sorted (show (rOwn (Ty.flat 1 (fun x : Int => [.int .i64 x]) pos hl h1) e (some ⟨q, 0, none⟩) c xs).W q from rfl)) (fun q hq => .inl hq) ?_
    refine Own.flat_shut (Nat.zero_le _) (heap_sortedI _ hh) (by omega) hcm (by simp [putCells, hcs]) ?_
    rw [Nat.mul_one, ints_flat]
    have h2 := take_putCellsI cur zs (by rw [hzl, hcs]; omega)
    have h3 : (zs.map (Value.int .i64)).take (Lib.compact xs).length = (Lib.compact xs).map (Value.int .i64) := by
      rw [← hzs, List.map_append, List.take_left' (by simp)]
    rw [← h3, ← h2, List.take_take, Nat.min_eq_left (by omega)]
open Go.Sort in
/-- slices.SortFunc where elements that are told as equal are the same: the sorted list is known -/
theorem sortU {ρ : Go.Shelf.Ren} (L : SlLaysF0.n6 P ρ) {α : Type} [Inhabited α] {k : Nat} {enc : α → List Value} {pos : 0 < k} {hl : ∀ x, (enc x).length = k} {h1 : ∀ x, ∀ u ∈ enc x, u.oneCell' = true} (aE : ∀ w, (isAgg (ρ.t 24)).run P w = .ok true w) (zE : ∀ w, (Go.sizeOf (ρ.t 24)).run P w = .ok k w)
    {cf : α → α → Int} (hO : SWO (ltOf cf)) {g : Nat} {cb : List Value} {e c : Nat} {A : Option Addr} {xs : List α} (H : Hp b S w (rOwn (Ty.flat k enc pos hl h1) e A c xs :: F)) (eg : ∀ args w, (callFunc g args).run P w = .ok (.enter g args) w) (hn : xs.length ≤ 1000000) (hu : ∀ x ∈ xs, ∀ y ∈ xs, ¬ cf x y < 0 → ¬ cf y x < 0 → x = y)
    (hcmp : ∀ (w' : World) (ys : List α), ys.length = xs.length → Hp b S w' (rOwn (Ty.flat k enc pos hl h1) e A c ys :: F) → ∀ x y : α, Rets P g (([.agg (enc x).toArray, .agg (enc y).toArray] : List Value) ++ cb).toArray w' fun v w'' => v = .int .i64 (cf x y) ∧ Ext w' w'') :
    Rets P (ρ.f 6) #[.slice A xs.length c, .func (.func g) #[] cb.toArray] w fun v w' => v = .tuple #[] ∧ Hp b S w' (rOwn (Ty.flat k enc pos hl h1) e A c (xs.mergeSort fun x y => !decide (cf y x < 0)) :: F) := by
  by_cases hne : xs = []
  · have h := sortf0 L (fv := .func (.func g) #[] cb.toArray) H hne
    refine h.mono ?_
    rintro v w' ⟨rfl, K⟩
    subst hne
    exact ⟨rfl, by simpa using K⟩
  · have h := sortf L aE zE hO H eg hn hne (cb := cb.toArray) (fun w' ys hy K x y => by have := hcmp w' ys hy K x y; simpa using this)
    refine h.mono ?_
    rintro v w' ⟨rfl, ys, hp, hs, K⟩
    have hms : (xs.mergeSort fun x y => !decide (cf y x < 0)).Pairwise fun x y => ¬ cf y x < 0 := by
      have h := List.pairwise_mergeSort (le := fun x y => !decide (cf y x < 0)) (fun a b c h1 h2 => by
        have h3 := hO.ntrans c b a
        simp only [ltOf, Bool.not_eq_true', decide_eq_false_iff_not] at h1 h2 h3 ⊢
        exact h3 h2 h1) (fun a b => by
        by_cases h1 : cf b a < 0
        · by_cases h2 : cf a b < 0
          · have h3 := hO.trans a b a (by simp [ltOf, h2]) (by simp [ltOf, h1])
            rw [hO.irrefl] at h3; cases h3
          · simp [h2]
        · simp [h1]) xs
      exact h.imp (fun {a b} h => by simpa using h)
    have he : ys = xs.mergeSort fun x y => !decide (cf y x < 0) :=
      List.Perm.eq_of_pairwise (le := fun x y => ¬ cf y x < 0) (fun a b ha hb h1 h2 => hu a (hp.mem_iff.1 ha) b (List.mem_mergeSort.1 hb) h2 h1) hs hms (hp.trans (List.mergeSort_perm xs _).symm)
    rw [he] at K
    exact ⟨rfl, K⟩
end
end Go.Proofs.YtigmondpokkaoaaGreat
