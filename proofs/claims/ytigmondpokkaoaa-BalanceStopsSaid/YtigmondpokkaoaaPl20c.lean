/- Contracts of functions: what each call hands back, and that it leaves all that was there as it was. -/
import Derived.Test.YtigmondpokkaoaaPl20b
set_option maxRecDepth 4000
set_option linter.all false
namespace Go.Proofs.Ytigmondpokkaoaa
open Go.RowKit

/-! ### the laws -/
theorem nfind_mem {l : List ANode} (hm : nMay l = true) {n : ANode} (hn : n ∈ l) : nFindB l n.ID = true ∧ nFindC l n.ID = n := by
  have h1 : nFindB l n.ID = true := by unfold nFindB; exact (hits_iff (nFair_up l) n.ID).2 ⟨n, by rw [nFair_ok hm]; exact hn, rfl⟩
  refine ⟨h1, ?_⟩
  unfold nFindB at h1
  obtain ⟨x, hx, hk⟩ := hits_at (key := ANode.ID) h1
  have h2 := nFindC_yes h1 hx
  rw [h2]
  have h3 := mem_of_get hx
  rw [nFair_ok hm] at h3
  exact node_inj (nRise_up _ 0 hm) h3 hn hk
theorem move_may {cs : List AChunk} {l : List ANode} {alive : List Int} {thr : Int} {o : AOrder} (h : MoveIs cs l alive thr o) : cMay (movedL cs o) = true := by
  obtain ⟨_, _, _, _, _, _, _, _, _, _, _, _, _, _, _, _, hs⟩ := move_step h
  exact hs.may
/-- what a legal move is -/
theorem legal_law {cs : List AChunk} {l : List ANode} {alive : List Int} {thr : Int} {o : AOrder} (h : MoveIs cs l alive thr o) :
    nFindB l o.From = true ∧ nFindB l o.To = true ∧ alive.contains o.From = true ∧ alive.contains o.To = true ∧ findB cs o.Chunk = true ∧ (nFindC l o.From).State = 0 ∧ (nFindC l o.To).State = 0 ∧ (loadN cs o.To : Int) < (nFindC l o.To).Room ∧ thr < (loadN cs o.From : Int) - loadN cs o.To ∧ 1 < (loadN cs o.From : Int) - loadN cs o.To ∧
      o.Version = (findC cs o.Chunk).Version ∧ o.Sum = (findC cs o.Chunk).Sum ∧ (findC (movedL cs o) o.Chunk).Holders.contains o.To = true ∧ (findC (movedL cs o) o.Chunk).Holders.contains o.From = false ∧ (findC (movedL cs o) o.Chunk).Holders.length = (findC cs o.Chunk).Holders.length ∧
      racksN l (findC cs o.Chunk).Holders ≤ racksN l (findC (movedL cs o) o.Chunk).Holders := by
  have hm := h.may
  obtain ⟨x, y, k, c, hx, hy, hk, h1, h2, h3, ho, h4, h5, h6, e, hone, hs⟩ := move_step h
  have hx1 := fitL_may l alive x hx
  have hy1 := fitL_may l alive y hy
  have fx := nfind_mem hx1.1 hx1.2.1
  have fy := nfind_mem hx1.1 hy1.2.1
  have fc := find_mem hm (mem_of_get hk)
  have hlt := lt_of_get hk
  have fd : findC (movedL cs o) c.ID = toN c x.ID y.ID := by
    have := find_mem hs.may (c := toN c x.ID y.ID) (by rw [e]; exact List.mem_iff_getElem?.2 ⟨k, by rw [List.getElem?_set_self hlt]⟩)
    exact this.2
  have b1 := hx1.2.2
  have b2 := hy1.2.2
  simp only [badN, Bool.or_eq_false_iff, Bool.not_eq_false', decide_eq_true_eq] at b1 b2
  subst ho
  simp only [fx, fy, fc, fd, b1, b2, true_and]
  refine ⟨h3, h2, h1, ?_, ?_, swapL_len (cOne_up hone) h4, h6⟩
  · exact List.contains_iff_mem.2 (swapL_mem.2 (.inr rfl))
  · rw [Bool.eq_false_iff]; intro hc
    rcases swapL_mem.1 (List.contains_iff_mem.1 hc) with h7 | h7
    · exact h7.2 rfl
    · exact hs.ne h7
theorem back_law {cs : List AChunk} (hm : cMay cs = true) (o : AOrder) : movedL cs o = cs ∨ (movedL (movedL cs o) { o with From := o.To, To := o.From } = cs ∧ (findC cs o.Chunk).Holders.length = (findC (movedL cs o) o.Chunk).Holders.length ∧ cMay (movedL cs o) = true) := by
  rcases moved_cases cs o with h | ⟨_, h1, h2, k, c, hk, hid, hf, ht, e⟩
  · exact .inl h
  right
  have hone := may_one hm c (mem_of_get hk)
  have hlt := lt_of_get hk
  have hu := cOne_up hone
  have hm2 : cMay (movedL cs o) = true := by rw [e]; exact may_set hm hk rfl (one_to hone ht h1 h2)
  have hk2 : (movedL cs o)[k]? = some (toN c o.From o.To) := by rw [e, List.getElem?_set_self hlt]
  have hr := risesL_gt _ _ (cOne_rise hone).2.2 _ hf
  have hne : o.From ≠ o.To := fun e => ht (e ▸ hf)
  have hb := moved_at (o := { o with From := o.To, To := o.From }) hm2 hr.1 hr.2 hk2 hid (swapL_mem.2 (.inr rfl)) (fun h3 => by
    rcases swapL_mem.1 h3 with h4 | h4
    · exact h4.2 rfl
    · exact hne h4)
  have fc := find_mem hm (mem_of_get hk)
  have fd := find_mem hm2 (mem_of_get hk2)
  rw [show (toN c o.From o.To).ID = o.Chunk from hid] at fd
  rw [hid] at fc
  refine ⟨?_, ?_, hm2⟩
  · rw [hb, e, List.set_set]
    have hc : toN (toN c o.From o.To) o.To o.From = c := by
      show ({ c with Holders := swapL (swapL c.Holders o.From o.To) o.To o.From } : AChunk) = c
      rw [swapL_back hu hf ht]
    rw [hc, set_same hk]
  · rw [fc.2, fd.2]; exact (swapL_len hu hf).symm



end Go.Proofs.Ytigmondpokkaoaa
