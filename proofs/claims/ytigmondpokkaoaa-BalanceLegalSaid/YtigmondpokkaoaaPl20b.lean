/- Contracts of functions: what each call hands back, and that it leaves all that was there as it was. -/
import Derived.Test.YtigmondpokkaoaaPl20
set_option maxRecDepth 4000
set_option linter.all false
namespace Go.Proofs.Ytigmondpokkaoaa
open Go.RowKit

/-! ### what one move does to the loads -/
structure Step (cs cs' : List AChunk) (x y : Int) : Prop where
  may : cMay cs' = true
  fr : loadN cs' x + 1 = loadN cs x
  to_ : loadN cs' y = loadN cs y + 1
  els : ∀ id, id ≠ x → id ≠ y → loadN cs' id = loadN cs id
  ne : x ≠ y
theorem fitL_one {l : List ANode} {alive : List Int} {n : ANode} (h : n ∈ fitL l alive) : 1 ≤ n.ID ∧ n.ID ≤ 16 := by
  have h1 := fitL_may l alive n h
  have h2 := (nRise_gt _ _ h1.1 n h1.2.1).2
  simp only [nOne, Bool.and_eq_true, decide_eq_true_eq] at h2
  exact ⟨h2.1.1.1.1, h2.1.1.1.2⟩
theorem move_step {cs : List AChunk} {l : List ANode} {alive : List Int} {thr : Int} {o : AOrder} (h : MoveIs cs l alive thr o) :
    ∃ (x y : ANode) (k : Nat) (c : AChunk), x ∈ fitL l alive ∧ y ∈ fitL l alive ∧ cs[k]? = some c ∧ 1 < (loadN cs x.ID : Int) - loadN cs y.ID ∧ thr < (loadN cs x.ID : Int) - loadN cs y.ID ∧ (loadN cs y.ID : Int) < y.Room ∧ o = ⟨0, c.ID, c.Version, c.Sum, x.ID, y.ID, 0⟩ ∧
      x.ID ∈ c.Holders ∧ y.ID ∉ c.Holders ∧ racksN l c.Holders ≤ racksN l (swapL c.Holders x.ID y.ID) ∧ movedL cs o = cs.set k (toN c x.ID y.ID) ∧ cOne c = true ∧ Step cs (movedL cs o) x.ID y.ID := by
  obtain ⟨hm, x, y, c, hx, hy, hc, h1, h2, h3, h4, rfl⟩ := h
  obtain ⟨k, hk⟩ := List.getElem?_of_mem hc
  unfold goesL at h4
  simp only [Bool.and_eq_true, List.contains_iff_mem, decide_eq_true_eq, Bool.not_eq_true'] at h4
  have ht : y.ID ∉ c.Holders := fun hm => by have := List.contains_iff_mem.2 hm; rw [h4.1.2] at this; cases this
  have hy1 := fitL_one hy
  have ho := may_one hm c hc
  have e := moved_at (o := ⟨0, c.ID, c.Version, c.Sum, x.ID, y.ID, 0⟩) hm hy1.1 hy1.2 hk rfl h4.1.1 ht
  have hne : x.ID ≠ y.ID := fun e => ht (e ▸ h4.1.1)
  refine ⟨x, y, k, c, hx, hy, hk, h2, h1, h3, rfl, h4.1.1, ht, h4.2, e, ho, ?_⟩
  have key := fun id => load_set (toN c x.ID y.ID) id hk
  have hb : ∀ id, (toN c x.ID y.ID).Holders.contains id = true ↔ id ∈ c.Holders ∧ id ≠ x.ID ∨ id = y.ID := fun id => by rw [List.contains_iff_mem]; exact swapL_mem
  have ha : ∀ id, c.Holders.contains id = true ↔ id ∈ c.Holders := fun id => List.contains_iff_mem
  rw [e]
  refine ⟨may_set hm hk rfl (one_to ho ht hy1.1 hy1.2), ?_, ?_, fun id i1 i2 => ?_, hne⟩
  · have := key x.ID
    rw [if_pos ((ha _).2 h4.1.1), if_neg (by rw [hb]; rintro (⟨_, h⟩ | h); exact h rfl; exact hne h)] at this
    omega
  · have := key y.ID
    rw [if_neg (by rw [ha]; exact ht), if_pos ((hb _).2 (.inr rfl))] at this
    omega
  · have := key id
    by_cases hi : id ∈ c.Holders
    · rw [if_pos ((ha _).2 hi), if_pos ((hb _).2 (.inl ⟨hi, i1⟩))] at this; exact Nat.add_right_cancel this
    · rw [if_neg (by rw [ha]; exact hi), if_neg (by rw [hb]; rintro (⟨h, _⟩ | h); exact hi h; exact i2 h)] at this; omega
/-! ### squares -/
def sqL : List ALoad → Int
  | [] => 0
  | x :: l => x.N * x.N + sqL l
theorem sqL_snoc (x : ALoad) : ∀ l : List ALoad, sqL (l ++ [x]) = sqL l + x.N * x.N
  | [] => by simp [sqL]
  | y :: l => by rw [List.cons_append, sqL, sqL, sqL_snoc x l]; omega
theorem sqL_bd : ∀ {l : List ALoad}, (∀ x ∈ l, 0 ≤ x.N ∧ x.N ≤ 1000) → 0 ≤ sqL l ∧ sqL l ≤ 1000000 * l.length
  | [], _ => by simp [sqL]
  | x :: l, h => by
    have ih := sqL_bd (l := l) (fun y hy => h y (by simp [hy]))
    have h1 := h x (by simp)
    have h2 := Int.mul_le_mul h1.2 h1.2 h1.1 (by omega)
    have h3 := Int.mul_nonneg h1.1 h1.1
    simp only [sqL, List.length_cons]
    omega
theorem loadsL_bd {cs : List AChunk} {l : List ANode} (h : cs.length ≤ 1000) : (∀ x ∈ loadsL cs l, 0 ≤ x.N ∧ x.N ≤ 1000) ∧ (loadsL cs l).length ≤ l.length := by
  unfold loadsL; split
  · refine ⟨fun x hx => ?_, by simp⟩
    obtain ⟨n, _, rfl⟩ := List.mem_map.1 hx
    have h1 : loadN cs n.ID ≤ cs.length := List.length_filter_le _ _
    simp only; omega
  · simp
def sumN (F : ANode → Int) : List ANode → Int
  | [] => 0
  | n :: l => F n + sumN F l
theorem sumN_none {v : Int} {a : Int} : ∀ {l : List ANode}, (∀ n ∈ l, n.ID ≠ a) → sumN (fun n => if n.ID = a then v else 0) l = 0
  | [], _ => rfl
  | n :: l, h => by rw [sumN, if_neg (h n (by simp)), sumN_none fun m hm => h m (by simp [hm])]; rfl
theorem sumN_one {v : Int} : ∀ {l : List ANode}, Up ANode.ID l → ∀ {x : ANode}, x ∈ l → sumN (fun n => if n.ID = x.ID then v else 0) l = v
  | [], _, x, h => by simp at h
  | n :: l, hu, x, h => by
    have h1 := List.pairwise_cons.1 hu
    rw [sumN]
    by_cases e : n.ID = x.ID
    · rw [if_pos e, sumN_none fun m hm e2 => by have := h1.1 m hm; omega]; omega
    · rw [if_neg e, sumN_one (l := l) h1.2 ((List.mem_cons.1 h).resolve_left fun h => e (h ▸ rfl))]; omega
theorem sumN_add (F G : ANode → Int) : ∀ l : List ANode, sumN (fun n => F n + G n) l = sumN F l + sumN G l
  | [] => rfl
  | n :: l => by simp only [sumN]; rw [sumN_add F G l]; omega
theorem sumN_congr {F G : ANode → Int} : ∀ {l : List ANode}, (∀ n ∈ l, F n = G n) → sumN F l = sumN G l
  | [], _ => rfl
  | n :: l, h => by rw [sumN, sumN, h n (by simp), sumN_congr fun m hm => h m (by simp [hm])]
theorem sqL_sum (cs : List AChunk) : ∀ l : List ANode, sqL (l.map fun (n : ANode) => ⟨n.ID, (loadN cs n.ID : Int)⟩) = sumN (fun n => (loadN cs n.ID : Int) * loadN cs n.ID) l
  | [] => rfl
  | n :: l => by rw [List.map_cons, sqL, sumN, sqL_sum cs l]
theorem sq_step {cs cs' : List AChunk} {l : List ANode} {x y : ANode} (hl : nMay l = true) (hx : x ∈ l) (hy : y ∈ l) (h : Step cs cs' x.ID y.ID) : sqL (loadsL cs' l) = sqL (loadsL cs l) - 2 * ((loadN cs x.ID : Int) - loadN cs y.ID) + 2 := by
  have hu : Up ANode.ID l := nRise_up _ 0 hl
  unfold loadsL; rw [if_pos hl, if_pos hl, sqL_sum, sqL_sum]
  have e : sumN (fun n => (loadN cs' n.ID : Int) * loadN cs' n.ID) l = sumN (fun n => (loadN cs n.ID : Int) * loadN cs n.ID + ((if n.ID = x.ID then 1 - 2 * (loadN cs x.ID : Int) else 0) + (if n.ID = y.ID then 2 * (loadN cs y.ID : Int) + 1 else 0))) l := by
    refine sumN_congr fun n _ => ?_
    have hf := h.fr
    have ht := h.to_
    have hne := h.ne
    by_cases e1 : n.ID = x.ID
    · rw [if_pos e1, if_neg (by omega), e1]
      have e2 : (loadN cs x.ID : Int) = loadN cs' x.ID + 1 := by omega
      rw [e2]; generalize (loadN cs' x.ID : Int) = a
      rw [Int.mul_add, Int.add_mul]; omega
    · by_cases e2 : n.ID = y.ID
      · rw [if_neg e1, if_pos e2, e2]
        have e3 : (loadN cs' y.ID : Int) = loadN cs y.ID + 1 := by omega
        rw [e3]; generalize (loadN cs y.ID : Int) = a
        rw [Int.mul_add, Int.add_mul]; omega
      · rw [if_neg e1, if_neg e2, h.els _ e1 e2]; omega
  rw [e, sumN_add, sumN_add, sumN_one hu hx, sumN_one hu hy]; omega
/-! ### the spread -/
theorem spread_step {cs cs' : List AChunk} {l : List ANode} {alive : List Int} {x y : ANode} (hx : x ∈ fitL l alive) (hy : y ∈ fitL l alive) (h1 : 1 < (loadN cs x.ID : Int) - loadN cs y.ID) (h : Step cs cs' x.ID y.ID) : spreadL cs' l alive ≤ spreadL cs l alive := by
  have hne : fitL l alive ≠ [] := fun e => by rw [e] at hx; simp at hx
  have hl : ∀ c : List AChunk, (fitLoads c l alive).length ≠ 0 := fun c e => by rw [fitLoads_eq, List.length_map] at e; exact hne (List.eq_nil_of_length_eq_zero e)
  have hln : ∀ c : List AChunk, fitLoads c l alive ≠ [] := fun c e => hl c (by rw [e]; rfl)
  have hmem : ∀ (c : List AChunk) (f : ALoad → ALoad → Bool), ∃ n ∈ fitL l alive, bestL f (fitLoads c l alive) = ⟨n.ID, (loadN c n.ID : Int)⟩ := fun c f => by
    have h2 := best_mem (f := f) (hln c)
    rw [fitLoads_eq] at h2 ⊢
    obtain ⟨n, hn, e⟩ := List.mem_map.1 h2
    exact ⟨n, hn, e.symm⟩
  have hmx := fun {n : ANode} (hn : n ∈ fitL l alive) => best_max (plL_fit (cs := cs) hn).2
  have hmn := fun {n : ANode} (hn : n ∈ fitL l alive) => best_min (plL_fit (cs := cs) hn).2
  obtain ⟨a, ha, ea⟩ := hmem cs' maxB
  obtain ⟨b, hb, eb⟩ := hmem cs' minB
  unfold spreadL
  rw [if_neg (hl cs'), if_neg (hl cs), ea, eb]
  have f1 := h.fr
  have f2 := h.to_
  have hxm := hmx hx
  have hym := hmn hy
  have ham : (loadN cs' a.ID : Int) ≤ (bestL maxB (fitLoads cs l alive)).N := by
    have := hmx ha
    by_cases e1 : a.ID = x.ID
    · rw [e1] at this ⊢; simp only at this hxm; omega
    · by_cases e2 : a.ID = y.ID
      · rw [e2]; simp only at hxm; omega
      · rw [h.els _ e1 e2]; exact this
  have hbm : (bestL minB (fitLoads cs l alive)).N ≤ (loadN cs' b.ID : Int) := by
    have := hmn hb
    by_cases e1 : b.ID = x.ID
    · rw [e1]; simp only at hym; omega
    · by_cases e2 : b.ID = y.ID
      · rw [e2] at this ⊢; simp only at this; omega
      · rw [h.els _ e1 e2]; exact this
  simp only
  omega
theorem stop_step {cs : List AChunk} {l : List ANode} {alive : List Int} {thr : Int} (hl : nMay l = true) (hb : moveB cs l alive thr = true) :
    sqL (loadsL (movedL cs (moveO cs l alive thr)) l) ≤ sqL (loadsL cs l) - 2 ∧ spreadL (movedL cs (moveO cs l alive thr)) l alive ≤ spreadL cs l alive ∧ cMay (movedL cs (moveO cs l alive thr)) = true := by
  rcases moveO_cases cs l alive thr with ⟨_, h⟩ | ⟨h, _⟩
  · rw [h] at hb; cases hb
  · obtain ⟨x, y, k, c, hx, hy, hk, h1, h2, h3, ho, h4, h5, h6, e, _, hs⟩ := move_step h
    have := sq_step hl (fitL_may l alive x hx).2.1 (fitL_may l alive y hy).2.1 hs
    exact ⟨by omega, spread_step hx hy h1 hs, hs.may⟩
theorem spread_bd {cs : List AChunk} {l : List ANode} {alive : List Int} (h : cs.length ≤ 1000) : -1000 ≤ spreadL cs l alive ∧ spreadL cs l alive ≤ 1000 := by
  unfold spreadL; split
  · omega
  · rename_i hl
    have hln : fitLoads cs l alive ≠ [] := fun e => hl (by rw [e]; rfl)
    have h1 := fitLoads_N (best_mem (f := maxB) hln)
    have h2 := fitLoads_N (best_mem (f := minB) hln)
    omega



end Go.Proofs.Ytigmondpokkaoaa
