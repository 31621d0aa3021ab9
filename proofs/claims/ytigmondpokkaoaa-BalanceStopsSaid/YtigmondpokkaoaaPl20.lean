/- Contracts of functions: what each call hands back, and that it leaves all that was there as it was. -/
import Derived.Test.YtigmondpokkaoaaAw20
set_option maxRecDepth 4000
set_option linter.all false
namespace Go.Proofs.Ytigmondpokkaoaa
open Go.RowKit

/-! ### what a swap and a move make -/
theorem swapL_perm (h : List Int) (fr to_ : Int) : (swapL h fr to_).Perm ((h.filter fun (x9 : Int) => !(decide (x9 = fr))) ++ [to_]) := by rw [swapL_eq]; exact isort_perm _ _
theorem swapL_mem {h : List Int} {fr to_ x : Int} : x ∈ swapL h fr to_ ↔ x ∈ h ∧ x ≠ fr ∨ x = to_ := by
  rw [(swapL_perm h fr to_).mem_iff]; simp
theorem filter_ne_len : ∀ {h : List Int}, h.Pairwise (fun x y => x < y) → ∀ {fr : Int}, fr ∈ h → (h.filter fun (x9 : Int) => !(decide (x9 = fr))).length + 1 = h.length
  | [], _, _, hm => by simp at hm
  | a :: h, hu, fr, hm => by
    have h1 := List.pairwise_cons.1 hu
    by_cases e : a = fr
    · subst e
      rw [List.filter_cons_of_neg (by simp), List.filter_eq_self.2 (fun x hx => by have := h1.1 x hx; simp; omega)]; rfl
    · rw [List.filter_cons_of_pos (by simpa using e)]
      have h2 := filter_ne_len h1.2 ((List.mem_cons.1 hm).resolve_left (fun h => e h.symm))
      simp only [List.length_cons]; omega
theorem swapL_len {h : List Int} (hu : h.Pairwise (fun x y => x < y)) {fr to_ : Int} (hm : fr ∈ h) : (swapL h fr to_).length = h.length := by
  rw [(swapL_perm h fr to_).length_eq, List.length_append]
  have := filter_ne_len hu hm
  simp only [List.length_cons, List.length_nil]; omega
theorem swapL_lt {h : List Int} (hu : h.Pairwise (fun x y => x < y)) {fr to_ : Int} (hn : to_ ∉ h) : (swapL h fr to_).Pairwise (fun x y => x < y) := by
  have h1 : (swapL h fr to_).Pairwise (fun a b => decide (a ≤ b) = true) := by rw [swapL_eq]; exact isort_up (fun a b c h1 h2 => by simp at h1 h2 ⊢; omega) (fun a b => by simp; omega) _
  have h2 : (swapL h fr to_).Pairwise (fun a b => a ≠ b) := by
    refine ((swapL_perm h fr to_).nodup_iff).2 (List.nodup_append.2 ⟨(hu.filter _).imp (fun h => by omega), by simp, fun x hx y hy e => ?_⟩)
    rw [List.mem_singleton.1 hy] at e
    exact hn (e ▸ (List.mem_filter.1 hx).1)
  exact (List.Pairwise.and h1 h2).imp (fun h => by have := of_decide_eq_true h.1; have := h.2; omega)
theorem swapL_rise {h : List Int} (hr : risesL 16 1 h = true) {fr to_ : Int} (hn : to_ ∉ h) (h1 : 1 ≤ to_) (h2 : to_ ≤ 16) : risesL 16 1 (swapL h fr to_) = true := by
  refine (rises_iff _ _).2 ⟨swapL_lt ((rises_iff _ _).1 hr).1 hn, fun x hx => ?_⟩
  rcases swapL_mem.1 hx with h3 | h3
  · exact ((rises_iff _ _).1 hr).2 x h3.1
  · omega
theorem up_same : ∀ {l m : List Int}, l.Pairwise (fun x y => x < y) → m.Pairwise (fun x y => x < y) → (∀ x, x ∈ l ↔ x ∈ m) → l = m := fun {l m} hl hm h =>
  List.Perm.eq_of_pairwise (le := fun a b => a ≤ b) (fun a b _ _ h1 h2 => by omega) (hl.imp (fun h => by omega)) (hm.imp (fun h => by omega)) ((List.perm_ext_iff_of_nodup (hl.imp (fun h => by omega)) (hm.imp (fun h => by omega))).2 h)
theorem swapL_back {h : List Int} (hu : h.Pairwise (fun x y => x < y)) {fr to_ : Int} (hm : fr ∈ h) (hn : to_ ∉ h) : swapL (swapL h fr to_) to_ fr = h := by
  have h1 : fr ∉ swapL h fr to_ := fun h2 => by
    rcases swapL_mem.1 h2 with h3 | h3
    · exact h3.2 rfl
    · exact hn (h3 ▸ hm)
  refine up_same (swapL_lt (swapL_lt hu hn) h1) hu fun x => ?_
  rw [swapL_mem, swapL_mem]
  constructor
  · rintro (⟨h2 | h2, h3⟩ | h2)
    · exact h2.1
    · exact absurd h2 h3
    · exact h2 ▸ hm
  · intro h2
    by_cases e : x = fr
    · exact .inr e
    · exact .inl ⟨.inl ⟨h2, e⟩, fun e2 => hn (e2 ▸ h2)⟩
abbrev toN (c : AChunk) (fr to_ : Int) : AChunk := { c with Holders := swapL c.Holders fr to_ }
theorem idC_at {cs : List AChunk} (hm : cMay cs = true) {k : Nat} {c : AChunk} (hc : cs[k]? = some c) : idC cs c.ID = (k : Int) := by
  rcases idxOf_spec (fun (x : AChunk) => decide (x.ID = c.ID)) cs with ⟨_, h2⟩ | ⟨j, x, h1, h2, h3, _⟩
  · have := h2 c (mem_of_get hc); simp at this
  · have h4 : x.ID = c.ID := of_decide_eq_true h3
    have hu := may_up hm
    unfold idC; rw [h1]
    rcases Nat.lt_trichotomy j k with h5 | h5 | h5
    · have := hu.get h5 h2 hc; omega
    · rw [h5]
    · have := hu.get h5 hc h2; omega
theorem moved_at {cs : List AChunk} {o : AOrder} (hm : cMay cs = true) (h1 : 1 ≤ o.To) (h2 : o.To ≤ 16) {k : Nat} {c : AChunk} (hc : cs[k]? = some c) (hid : c.ID = o.Chunk) (hf : o.From ∈ c.Holders) (ht : o.To ∉ c.Holders) : movedL cs o = cs.set k (toN c o.From o.To) := by
  have hk := idC_at hm hc
  rw [hid] at hk
  unfold movedL
  rw [if_neg (by rw [hm, hk]; simp; omega), hk, Int.toNat_natCast, hc]
  exact if_pos (by simp [hf, ht])
theorem moved_cases (cs : List AChunk) (o : AOrder) : movedL cs o = cs ∨ (cMay cs = true ∧ 1 ≤ o.To ∧ o.To ≤ 16 ∧ ∃ (k : Nat) (c : AChunk), cs[k]? = some c ∧ c.ID = o.Chunk ∧ o.From ∈ c.Holders ∧ o.To ∉ c.Holders ∧ movedL cs o = cs.set k (toN c o.From o.To)) := by
  by_cases h : (((!cMay cs || decide (idC cs o.Chunk < 0)) || decide (o.To < 1)) || decide (16 < o.To)) = true
  · left; unfold movedL; rw [if_pos h]
  · have h' := Bool.eq_false_iff.2 h
    simp only [Bool.or_eq_false_iff, Bool.not_eq_false', decide_eq_false_iff_not] at h'
    rcases idxOf_spec (fun (x : AChunk) => decide (x.ID = o.Chunk)) cs with ⟨h1, _⟩ | ⟨j, x, h1, h2, h3, _⟩
    · exfalso; have := h'.1.1.2; unfold idC at this; omega
    · by_cases hc : (x.Holders.contains o.From && !x.Holders.contains o.To) = true
      · right
        have hc' := hc
        simp only [Bool.and_eq_true, List.contains_iff_mem, Bool.not_eq_true'] at hc'
        have ht : o.To ∉ x.Holders := fun hm => by have := List.contains_iff_mem.2 hm; rw [hc'.2] at this; cases this
        exact ⟨h'.1.1.1, by omega, by omega, j, x, h2, of_decide_eq_true h3, hc'.1, ht, moved_at h'.1.1.1 (by omega) (by omega) h2 (of_decide_eq_true h3) hc'.1 ht⟩
      · left; unfold movedL; rw [if_neg h]
        have hj : (idC cs o.Chunk).toNat = j := by unfold idC; omega
        rw [hj, h2]; exact if_neg hc
theorem may_set {cs : List AChunk} (hm : cMay cs = true) {k : Nat} {c c' : AChunk} (hc : cs[k]? = some c) (hid : c'.ID = c.ID) (ho : cOne c' = true) : cMay (cs.set k c') = true := by
  have h := cMay_iff.1 hm
  refine cMay_iff.2 ⟨fun x hx => ?_, by rw [List.length_set]; exact h.2.1, ?_⟩
  · rcases List.mem_or_eq_of_mem_set hx with h1 | h1
    · exact h.1 x h1
    · rw [h1]; exact ho
  · rw [List.map_set, hid, set_same (by rw [List.getElem?_map, hc]; rfl)]; exact h.2.2
theorem one_to {c : AChunk} (ho : cOne c = true) {fr to_ : Int} (hn : to_ ∉ c.Holders) (h1 : 1 ≤ to_) (h2 : to_ ≤ 16) : cOne (toN c fr to_) = true := by
  have h := cOne_rise ho
  have h3 := swapL_rise (fr := fr) h.2.2 hn h1 h2
  unfold cOne; simp [h3]; omega
theorem load_set : ∀ {cs : List AChunk} {k : Nat} {c : AChunk} (c' : AChunk) (id : Int), cs[k]? = some c → loadN (cs.set k c') id + (if c.Holders.contains id = true then 1 else 0) = loadN cs id + (if c'.Holders.contains id = true then 1 else 0)
  | [], _, _, _, _, h => by simp at h
  | a :: cs, 0, c, c', id, h => by
    simp only [List.getElem?_cons_zero, Option.some.injEq] at h; subst h
    simp only [List.set_cons_zero, loadN, List.filter_cons]
    by_cases h1 : a.Holders.contains id = true <;> by_cases h2 : c'.Holders.contains id = true
    · rw [if_pos h1, if_pos h2, if_pos h1, if_pos h2]; simp only [List.length_cons]
    · rw [if_pos h1, if_neg h2, if_pos h1, if_neg h2]; simp only [List.length_cons]
    · rw [if_neg h1, if_pos h2, if_neg h1, if_pos h2]; simp only [List.length_cons]
    · rw [if_neg h1, if_neg h2, if_neg h1, if_neg h2]
  | a :: cs, k + 1, c, c', id, h => by
    have ih := load_set (cs := cs) (k := k) c' id (by simpa using h)
    simp only [List.set_cons_succ, loadN, List.filter_cons] at ih ⊢
    by_cases h1 : a.Holders.contains id = true
    · rw [if_pos h1, if_pos h1]; simp only [List.length_cons]; omega
    · rw [if_neg h1, if_neg h1]; exact ih



end Go.Proofs.Ytigmondpokkaoaa
