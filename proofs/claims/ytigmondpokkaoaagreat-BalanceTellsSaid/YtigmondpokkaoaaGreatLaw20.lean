/- Contracts of functions: what each call hands back, and that it leaves all that was there as it was. -/
import Derived.Test.YtigmondpokkaoaaGreatBal6
set_option maxRecDepth 4000
set_option linter.all false
namespace Go.Proofs.YtigmondpokkaoaaGreat
open Go.RowKit

def few20 (chunks : List AChunk) (l : List ANode) (alive : List Int) : Bool := (fewL chunks && decide (l.length ≤ 40)) && decide (alive.length ≤ 40)
theorem few20_eq (chunks : List AChunk) (l : List ANode) (alive : List Int) : ((fewL chunks && decide ((l.length : Int) ≤ 40)) && decide ((alive.length : Int) ≤ 40)) = few20 chunks l alive := by
  unfold few20
  have e1 : decide ((l.length : Int) ≤ 40) = decide (l.length ≤ 40) := by rw [decide_eq_decide]; omega
  have e2 : decide ((alive.length : Int) ≤ 40) = decide (alive.length ≤ 40) := by rw [decide_eq_decide]; omega
  rw [e1, e2]
theorem few20_sz {chunks : List AChunk} {l : List ANode} {alive : List Int} (h : few20 chunks l alive = true) : chunks.length ≤ 60 ∧ (∀ x ∈ chunks, x.Holders.length ≤ 30) ∧ l.length ≤ 40 ∧ alive.length ≤ 40 := by
  simp only [few20, Bool.and_eq_true, decide_eq_true_eq] at h
  have := few_sz h.1.1
  exact ⟨this.1, this.2, h.1.2, h.2⟩
theorem best_max {l : List ALoad} {x : ALoad} (h : x ∈ l) : x.N ≤ (bestL maxB l).N := by
  cases l with
  | nil => simp at h
  | cons y l =>
    have key : ∀ (l : List ALoad) (m : ALoad), m.N ≤ (l.foldl (fun m y => if maxB y m = true then y else m) m).N ∧ ∀ z ∈ l, z.N ≤ (l.foldl (fun m y => if maxB y m = true then y else m) m).N := by
      intro l
      induction l with
      | nil => intro m; exact ⟨Int.le_refl _, fun z hz => by simp at hz⟩
      | cons y l ih =>
        intro m
        rw [List.foldl_cons]
        have h1 := ih (if maxB y m = true then y else m)
        have h2 : m.N ≤ (if maxB y m = true then y else m).N ∧ y.N ≤ (if maxB y m = true then y else m).N := by
          unfold maxB
          split
          · rename_i h; have h3 := of_decide_eq_true h; unfold cmpI at h3; split at h3 <;> (try split at h3) <;> omega
          · rename_i h; have h3 : ¬ 0 < cmpI y.N m.N := fun e => h (decide_eq_true e); unfold cmpI at h3; split at h3 <;> (try split at h3) <;> omega
        refine ⟨by omega, fun z hz => ?_⟩
        rcases List.mem_cons.1 hz with rfl | hz
        · omega
        · exact h1.2 z hz
    have h1 := key l y
    rcases List.mem_cons.1 h with rfl | h
    · exact h1.1
    · exact h1.2 x h
theorem best_min {l : List ALoad} {x : ALoad} (h : x ∈ l) : (bestL minB l).N ≤ x.N := by
  cases l with
  | nil => simp at h
  | cons y l =>
    have key : ∀ (l : List ALoad) (m : ALoad), (l.foldl (fun m y => if minB y m = true then y else m) m).N ≤ m.N ∧ ∀ z ∈ l, (l.foldl (fun m y => if minB y m = true then y else m) m).N ≤ z.N := by
      intro l
      induction l with
      | nil => intro m; exact ⟨Int.le_refl _, fun z hz => by simp at hz⟩
      | cons y l ih =>
        intro m
        rw [List.foldl_cons]
        have h1 := ih (if minB y m = true then y else m)
        have h2 : (if minB y m = true then y else m).N ≤ m.N ∧ (if minB y m = true then y else m).N ≤ y.N := by
          unfold minB
          split
          · rename_i h; have h3 := of_decide_eq_true h; have := cmpI_neg.1 h3; omega
          · rename_i h; have h3 : ¬ cmpI y.N m.N < 0 := fun e => h (decide_eq_true e); rw [cmpI_neg] at h3; omega
        refine ⟨by omega, fun z hz => ?_⟩
        rcases List.mem_cons.1 hz with rfl | hz
        · omega
        · exact h1.2 z hz
    have h1 := key l y
    rcases List.mem_cons.1 h with rfl | h
    · exact h1.1
    · exact h1.2 x h
theorem fitL_may (l : List ANode) (alive : List Int) : ∀ n ∈ fitL l alive, nMay l = true ∧ n ∈ l ∧ badN alive n = false := by
  intro n hn
  unfold fitL at hn
  split at hn
  · rename_i h
    have := List.mem_filter.1 hn
    exact ⟨h, this.1, by simpa using this.2⟩
  · simp at hn
theorem nRise_sub : ∀ {l m : List ANode} {z : Int}, m.Sublist l → nRise z l = true → nRise z m = true
  | _, _, _, .slnil, h => h
  | _, _, z, .cons a (l₁ := m) (l₂ := l) hs, h => by
    simp only [nRise, Bool.and_eq_true, Bool.not_eq_true', Bool.or_eq_false_iff, Bool.not_eq_false', decide_eq_false_iff_not] at h
    have h1 := nRise_sub hs h.2
    cases m with
    | nil => rfl
    | cons b m =>
      simp only [nRise, Bool.and_eq_true, Bool.not_eq_true', Bool.or_eq_false_iff, Bool.not_eq_false', decide_eq_false_iff_not] at h1 ⊢
      exact ⟨⟨h1.1.1, by omega⟩, h1.2⟩
  | _, _, z, .cons₂ a (l₁ := m) (l₂ := l) hs, h => by
    simp only [nRise, Bool.and_eq_true] at h ⊢
    exact ⟨h.1, nRise_sub hs h.2⟩
theorem fitL_nMay (l : List ANode) (alive : List Int) : nMay (fitL l alive) = true := by
  unfold fitL; split
  · rename_i h; exact nRise_sub List.filter_sublist h
  · rfl
theorem fitLoads_eq (cs : List AChunk) (l : List ANode) (alive : List Int) : fitLoads cs l alive = (fitL l alive).map fun (n : ANode) => ⟨n.ID, (loadN cs n.ID : Int)⟩ := by
  unfold fitLoads loadsL; rw [if_pos (fitL_nMay l alive)]
theorem plL_fit {cs : List AChunk} {l : List ANode} {alive : List Int} {y : ANode} (h : y ∈ fitL l alive) : plL (fitLoads cs l alive) y.ID = (loadN cs y.ID : Int) ∧ (⟨y.ID, (loadN cs y.ID : Int)⟩ : ALoad) ∈ fitLoads cs l alive := by
  have hm : (⟨y.ID, (loadN cs y.ID : Int)⟩ : ALoad) ∈ fitLoads cs l alive := by rw [fitLoads_eq]; exact List.mem_map.2 ⟨y, h, rfl⟩
  refine ⟨?_, hm⟩
  unfold plL
  cases hf : (fitLoads cs l alive).find? (fun (x : ALoad) => decide (x.Node = y.ID)) with
  | none => have := List.find?_eq_none.1 hf _ hm; simp at this
  | some x =>
    have h1 := List.find?_some hf
    have h2 := List.mem_of_find?_eq_some hf
    rw [fitLoads_eq] at h2
    obtain ⟨n, hn, rfl⟩ := List.mem_map.1 h2
    simp at h1
    simp only [h1]
theorem ordL_mem {cf : ANode → ANode → Int} {l : List ANode} {x : ANode} : x ∈ ordL cf l ↔ x ∈ l := by unfold ordL; exact List.mem_mergeSort
theorem pairs_mem {xs ys : List ANode} {p : ANode × ANode} : p ∈ pairsL xs ys ↔ p.1 ∈ xs ∧ p.2 ∈ ys := by
  obtain ⟨x, y⟩ := p
  simp only [pairsL, List.mem_flatMap, List.mem_map, Prod.mk.injEq]
  constructor
  · rintro ⟨a, ha, b, hb, rfl, rfl⟩; exact ⟨ha, hb⟩
  · rintro ⟨ha, hb⟩; exact ⟨x, ha, y, hb, rfl, rfl⟩
/-- what a move is -/
structure MoveIs (cs : List AChunk) (l : List ANode) (alive : List Int) (thr : Int) (o : AOrder) : Prop where
  may : cMay cs = true
  ex : ∃ (x y : ANode) (c : AChunk), x ∈ fitL l alive ∧ y ∈ fitL l alive ∧ c ∈ cs ∧ thr < loadN cs x.ID - loadN cs y.ID ∧ 1 < (loadN cs x.ID : Int) - loadN cs y.ID ∧ (loadN cs y.ID : Int) < y.Room ∧ goesL c l x.ID y.ID = true ∧ o = ⟨0, c.ID, c.Version, c.Sum, x.ID, y.ID, 0⟩
theorem pairO_is {cs : List AChunk} {l : List ANode} {alive : List Int} {thr : Int} {p : ANode × ANode} {o : AOrder} (h1 : p.1 ∈ fitL l alive) (h2 : p.2 ∈ fitL l alive) (h : pairO cs l (fitLoads cs l alive) thr p = some o) : ∃ c, c ∈ cs ∧ thr < loadN cs p.1.ID - loadN cs p.2.ID ∧ 1 < (loadN cs p.1.ID : Int) - loadN cs p.2.ID ∧ (loadN cs p.2.ID : Int) < p.2.Room ∧ goesL c l p.1.ID p.2.ID = true ∧ o = ⟨0, c.ID, c.Version, c.Sum, p.1.ID, p.2.ID, 0⟩ := by
  unfold pairO at h
  rw [(plL_fit h1).1, (plL_fit h2).1] at h
  have hm : thr ≤ (if 1 > thr then 1 else thr) ∧ 1 ≤ (if 1 > thr then 1 else thr) := by split <;> omega
  generalize (if 1 > thr then 1 else thr) = m at h hm
  by_cases hc : (loadN cs p.1.ID : Int) - loadN cs p.2.ID ≤ m ∨ p.2.Room ≤ (loadN cs p.2.ID : Int)
  · rw [if_pos hc] at h; cases h
  · rw [if_neg hc] at h
    unfold chunkO at h
    cases hf : cs.find? (fun (c : AChunk) => goesL c l p.1.ID p.2.ID) with
    | none => rw [hf] at h; cases h
    | some c =>
      rw [hf] at h
      simp only [Option.map_some, Option.some.injEq] at h
      exact ⟨c, List.mem_of_find?_eq_some hf, by omega, by omega, by omega, (by have := List.find?_some hf; simpa using this), h.symm⟩
theorem moveO_cases (cs : List AChunk) (l : List ANode) (alive : List Int) (thr : Int) : (moveO cs l alive thr = ⟨0, 0, 0, 0, 0, 0, 0⟩ ∧ moveB cs l alive thr = false) ∨ (MoveIs cs l alive thr (moveO cs l alive thr) ∧ moveB cs l alive thr = true) := by
  unfold moveB moveO
  by_cases hm : cMay cs = true
  · rw [if_pos hm]
    cases hf : (pairsO cs l alive).findSome? (pairO cs l (fitLoads cs l alive) thr) with
    | none => left; exact ⟨rfl, rfl⟩
    | some o =>
      right
      obtain ⟨p, hp, ho⟩ := List.exists_of_findSome?_eq_some hf
      have hp' := pairs_mem.1 hp
      rw [ordL_mem, ordL_mem] at hp'
      obtain ⟨c, h1, h2, h3, h4, h5, h6⟩ := pairO_is hp'.1 hp'.2 ho
      refine ⟨⟨hm, p.1, p.2, c, hp'.1, hp'.2, h1, h2, h3, h4, h5, h6⟩, ?_⟩
      have h7 := risesL_gt _ _ (cMay_iff.1 hm).2.2 c.ID (List.mem_map.2 ⟨c, h1, rfl⟩)
      rw [h6]
      exact decide_eq_true (show 0 < c.ID by omega)
  · rw [if_neg hm]; left; exact ⟨rfl, rfl⟩
theorem spread_ge {cs : List AChunk} {l : List ANode} {alive : List Int} {x y : ANode} (hx : x ∈ fitL l alive) (hy : y ∈ fitL l alive) : (loadN cs x.ID : Int) - loadN cs y.ID ≤ spreadL cs l alive := by
  have h1 := best_max (plL_fit (cs := cs) hx).2
  have h2 := best_min (plL_fit (cs := cs) hy).2
  have h3 : (fitLoads cs l alive).length ≠ 0 := fun e => by rw [List.eq_nil_of_length_eq_zero e] at h1; have := (plL_fit (cs := cs) hx).2; rw [List.eq_nil_of_length_eq_zero e] at this; simp at this
  unfold spreadL; rw [if_neg h3]
  simp only at h1 h2
  omega
theorem even_law (cs : List AChunk) (l : List ANode) (alive : List Int) (thr : Int) : moveB cs l alive thr = true → thr < spreadL cs l alive ∧ 1 < spreadL cs l alive := by
  intro h
  rcases moveO_cases cs l alive thr with ⟨_, h1⟩ | ⟨⟨_, x, y, c, hx, hy, _, h2, h3, _, _, _⟩, _⟩
  · rw [h1] at h; cases h
  · have := spread_ge (cs := cs) hx hy; omega



end Go.Proofs.YtigmondpokkaoaaGreat
