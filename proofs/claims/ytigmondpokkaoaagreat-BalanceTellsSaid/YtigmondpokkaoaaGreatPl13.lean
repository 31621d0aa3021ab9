/- Contracts of functions: what each call hands back, and that it leaves all that was there as it was. -/
import Derived.Test.YtigmondpokkaoaaGreatTab2
set_option maxRecDepth 4000
set_option linter.all false
namespace Go.Proofs.YtigmondpokkaoaaGreat
open Go.RowKit

def prevLe (l : List Int) (k : Nat) (x : Int) : Bool := match k with
  | 0 => false
  | k + 1 => match l[k]? with | some y => decide (x ≤ y) | none => false
theorem prevLe_zero {l : List Int} {k : Nat} {x : Int} (h : ¬ 0 < k) : prevLe l k x = false := by
  cases k with
  | zero => rfl
  | succ k => omega
theorem prevLe_at {l : List Int} {k : Nat} {x y : Int} (h : 0 < k) (hy : l[k - 1]? = some y) : prevLe l k x = decide (x ≤ y) := by
  cases k with
  | zero => omega
  | succ k => simp only [prevLe]; rw [show k + 1 - 1 = k from rfl] at hy; rw [hy]
def lastOr (z : Int) (m : List Int) : Int := match m.getLast? with | some y => y + 1 | none => z
theorem lastOr_cons (z y a : Int) (m : List Int) : lastOr z (y :: a :: m) = lastOr (y + 1) (a :: m) := by
  unfold lastOr
  rw [List.getLast?_cons_cons]
  cases h : (a :: m).getLast? with
  | none => simp at h
  | some _ => rfl
theorem risesL_snoc {most : Int} : ∀ (m : List Int) (z x : Int), risesL most z (m ++ [x]) = (risesL most z m && !(decide (x < lastOr z m) || decide (most < x)))
  | [], z, x => by simp only [List.nil_append, risesL, Bool.and_true, Bool.true_and]; rfl
  | [y], z, x => by simp only [List.cons_append, List.nil_append, risesL, Bool.and_true]; rfl
  | y :: a :: m, z, x => by
    have ih := risesL_snoc (most := most) (a :: m) (y + 1) x
    rw [lastOr_cons, List.cons_append]
    show (_ && risesL most (y + 1) ((a :: m) ++ [x])) = (_ && risesL most (y + 1) (a :: m) && _)
    rw [ih, Bool.and_assoc]
theorem rises_at {most : Int} {l : List Int} {k : Nat} {x : Int} (hx : l[k]? = some x) (h : risesL most 1 (l.take k) = true) : risesL most 1 (l.take (k + 1)) = !((decide (x < 1) || decide (most < x)) || prevLe l k x) := by
  rw [take_snoc hx, risesL_snoc, h, Bool.true_and]
  congr 1
  cases k with
  | zero => simp only [prevLe, Bool.or_false]; rfl
  | succ k =>
    obtain ⟨y, hy⟩ := get_some (xs := l) (i := k) (by have := lt_of_get hx; omega)
    have h1 := risesL_gt _ _ h y (by rw [take_snoc hy]; simp)
    have h2 : lastOr 1 (l.take (k + 1)) = y + 1 := by unfold lastOr; rw [take_snoc hy]; simp
    rw [h2]; simp only [prevLe, hy]
    rw [Bool.eq_iff_iff]; simp; omega
theorem map_get {l : List AChunk} {k : Nat} {x : AChunk} (h : l[k]? = some x) : (l.map AChunk.ID)[k]? = some x.ID := by rw [List.getElem?_map, h]; rfl
theorem map_take_ids (l : List AChunk) (k : Nat) : (l.take k).map AChunk.ID = (l.map AChunk.ID).take k := List.map_take ..
theorem risesL_pre {most : Int} : ∀ (l m : List Int) (z : Int), risesL most z (l ++ m) = true → risesL most z l = true
  | [], _, _, _ => rfl
  | y :: l, m, z, h => by
    simp only [List.cons_append, risesL, Bool.and_eq_true] at h ⊢
    exact ⟨h.1, risesL_pre l m _ h.2⟩
theorem risesL_bad {most : Int} {l : List Int} {k : Nat} (h : risesL most 1 (l.take (k + 1)) = false) : risesL most 1 l = false := by
  cases h2 : risesL most 1 l with
  | false => rfl
  | true => rw [← List.take_append_drop (k + 1) l] at h2; rw [risesL_pre _ _ _ h2] at h; cases h
theorem may_no_one {l : List AChunk} {x : AChunk} (hx : x ∈ l) (h : cOne x = false) : cMay l = false := by
  cases h2 : cMay l with
  | false => rfl
  | true => rw [may_one h2 x hx] at h; cases h
theorem may_no_ids {l : List AChunk} {k : Nat} (h : risesL 1048576 1 ((l.map AChunk.ID).take (k + 1)) = false) : cMay l = false := by
  unfold cMay; rw [risesL_bad h]; simp
theorem cOne_no {c : AChunk} {k : Nat} (h : risesL 16 1 (c.Holders.take (k + 1)) = false) : cOne c = false := by
  unfold cOne; rw [risesL_bad h]; simp
theorem low_at {l : List AChunk} (hu : Up AChunk.ID l) {n : Nat} {x : AChunk} {id : Int} (hx : l[n]? = some x) (hid : x.ID = id) : low (fun (y : AChunk) => cmpI y.ID id) l = n := by
  refine low_eq (by have := lt_of_get hx; omega) (fun a y ha hy => ?_) (fun a y ha hy => ?_)
  · rw [cmpI_neg]; have := hu.get ha hy hx; omega
  · rw [cmpI_neg]
    rcases Nat.lt_or_ge n a with h1 | h1
    · have := hu.get h1 hx hy; omega
    · have : n = a := by omega
      subst this; rw [hx] at hy; cases hy; omega
theorem find_fair (l : List AChunk) (id : Int) : findC (cFair l) id = findC l id ∧ findB (cFair l) id = findB l id := by
  unfold findC findB; rw [cFair_ok (cFair_may l)]; exact ⟨rfl, rfl⟩
/-- where the document's search ends -/
theorem at_spec (l : List AChunk) (id : Int) : (idxOf (fun (y : AChunk) => decide (y.ID = id)) (cFair l) = -1 ∧ findB l id = false) ∨ ∃ (n : Nat) (x : AChunk), idxOf (fun (y : AChunk) => decide (y.ID = id)) (cFair l) = (n : Int) ∧ (cFair l)[n]? = some x ∧ x.ID = id ∧ findB l id = true ∧ findC l id = x ∧ low (fun (y : AChunk) => cmpI y.ID id) (cFair l) = n := by
  rcases idxOf_spec (fun (y : AChunk) => decide (y.ID = id)) (cFair l) with ⟨h1, h2⟩ | ⟨n, x, h1, h2, h3, _⟩
  · left; refine ⟨h1, ?_⟩
    cases hb : findB l id with
    | false => rfl
    | true =>
      rw [← (find_fair l id).2] at hb
      have h3 := find_get (cFair_may l) hb
      have h4 := h2 _ (mem_of_get h3.1)
      simp [h3.2] at h4
  · right
    have h4 : x.ID = id := by simpa using h3
    have h5 := find_mem (cFair_may l) (mem_of_get h2)
    rw [h4, (find_fair l id).1, (find_fair l id).2] at h5
    exact ⟨n, x, h1, h2, h4, h5.1, h5.2, low_at (cFair_up l) h2 h4⟩

theorem chg_idx {l : List AChunk} {id : Int} {n : Nat} {x : AChunk} (h3 : findB l id = true) (hx : (cFair l)[n]? = some x) (h5 : low (fun (y : AChunk) => cmpI y.ID id) (cFair l) = n) (f : AChunk → AChunk × Int) : chgL l id f = if (f x).2 = 0 then ((cFair l).set n (f x).1, 0) else ([], (f x).2) := by
  rw [chgL_at (c := x) h3 (by rw [h5]; exact hx), h5]
theorem forget_idx {l : List AChunk} {id : Int} {n : Nat} (h3 : findB l id = true) (h5 : low (fun (y : AChunk) => cmpI y.ID id) (cFair l) = n) : forgetL l id = ((cFair l).take n ++ (cFair l).drop (n + 1), 0) := by
  unfold forgetL; rw [if_pos (show hits (fun (y : AChunk) => cmpI y.ID id) (cFair l) = true from h3), h5]
theorem forget_no {l : List AChunk} {id : Int} (h : findB l id = false) : forgetL l id = ([], 5) := by
  unfold forgetL; rw [if_neg (by unfold findB at h; rw [h]; decide)]
theorem up_ext : ∀ (l m : List Int), l.Pairwise (fun x y => x < y) → m.Pairwise (fun x y => x < y) → (∀ x, x ∈ l ↔ x ∈ m) → l = m
  | [], [], _, _, _ => rfl
  | [], y :: m, _, _, h => absurd ((h y).2 (by simp)) (by simp)
  | x :: l, [], _, _, h => absurd ((h x).1 (by simp)) (by simp)
  | x :: l, y :: m, hl, hm, h => by
    have h1 := List.pairwise_cons.1 hl
    have h2 := List.pairwise_cons.1 hm
    have hxy : x = y := by
      have h3 := (h x).1 (by simp)
      have h4 := (h y).2 (by simp)
      rcases List.mem_cons.1 h3 with h3 | h3
      · exact h3
      · rcases List.mem_cons.1 h4 with h4 | h4
        · exact h4.symm
        · have := h2.1 x h3; have := h1.1 y h4; omega
    subst hxy
    rw [up_ext l m h1.2 h2.2 fun z => ?_]
    constructor
    · intro hz
      rcases List.mem_cons.1 ((h z).1 (by simp [hz])) with h3 | h3
      · have := h1.1 z hz; omega
      · exact h3
    · intro hz
      rcases List.mem_cons.1 ((h z).2 (by simp [hz])) with h3 | h3
      · have := h2.1 z hz; omega
      · exact h3
def pickL (f : Int → Bool) : Nat → List Int
  | 0 => []
  | n + 1 => pickL f n ++ (if f ((n + 1 : Nat) : Int) then [((n + 1 : Nat) : Int)] else [])
theorem pickL_mem (f : Int → Bool) : ∀ (n : Nat) (x : Int), x ∈ pickL f n ↔ 1 ≤ x ∧ x ≤ n ∧ f x = true
  | 0, x => by simp [pickL]; omega
  | n + 1, x => by
    simp only [pickL, List.mem_append, pickL_mem f n]
    split
    · rename_i h
      simp only [List.mem_singleton]
      constructor
      · rintro (h1 | h1)
        · exact ⟨h1.1, by omega, h1.2.2⟩
        · subst h1; exact ⟨by omega, by omega, h⟩
      · rintro ⟨h1, h2, h3⟩
        by_cases e : x = ((n + 1 : Nat) : Int)
        · exact .inr e
        · exact .inl ⟨h1, by omega, h3⟩
    · rename_i h
      simp only [List.not_mem_nil, or_false]
      constructor
      · rintro h1; exact ⟨h1.1, by omega, h1.2.2⟩
      · rintro ⟨h1, h2, h3⟩
        refine ⟨h1, ?_, h3⟩
        rcases (by omega : (n : Int) < x ∨ x ≤ n) with h4 | h4
        · have : x = ((n + 1 : Nat) : Int) := by omega
          subst this; exact absurd h3 h
        · exact h4
theorem pickL_up (f : Int → Bool) : ∀ (n : Nat), (pickL f n).Pairwise (fun x y => x < y)
  | 0 => List.Pairwise.nil
  | n + 1 => by
    simp only [pickL]
    refine List.pairwise_append.2 ⟨pickL_up f n, by split <;> simp, fun x hx y hy => ?_⟩
    have h1 := (pickL_mem f n x).1 hx
    split at hy
    · rw [List.mem_singleton.1 hy]; omega
    · simp at hy
theorem pickL_len (f : Int → Bool) : ∀ (n : Nat), (pickL f n).length ≤ n
  | 0 => Nat.le_refl _
  | n + 1 => by simp only [pickL, List.length_append]; have := pickL_len f n; split <;> simp <;> omega
/-- what lies ahead of a place and behind it -/
theorem low_parts {h : List Int} (hu : h.Pairwise (fun x y => x < y)) (n : Int) : (∀ x ∈ h.take (low (fun (y : Int) => cmpI y n) h), x < n) ∧ (∀ x ∈ h.drop (low (fun (y : Int) => cmpI y n) h), n ≤ x) := by
  have key : ∀ (h : List Int), h.Pairwise (fun x y => x < y) → (∀ x ∈ h.take (low (fun (y : Int) => cmpI y n) h), x < n) ∧ (∀ x ∈ h.drop (low (fun (y : Int) => cmpI y n) h), n ≤ x) := by
    intro h
    induction h with
    | nil => intro _; simp
    | cons a h ih =>
      intro hu
      have h1 := List.pairwise_cons.1 hu
      have ih := ih h1.2
      by_cases ha : a < n
      · have e : low (fun (y : Int) => cmpI y n) (a :: h) = low (fun (y : Int) => cmpI y n) h + 1 := by
          unfold low; rw [List.countP_cons_of_pos]; simpa [cmpI_neg] using ha
        rw [e]
        refine ⟨fun x hx => ?_, fun x hx => ih.2 x (by simpa using hx)⟩
        rw [List.take_succ_cons] at hx
        rcases List.mem_cons.1 hx with rfl | hx
        · exact ha
        · exact ih.1 x hx
      · have e : low (fun (y : Int) => cmpI y n) (a :: h) = 0 := by
          unfold low
          rw [List.countP_eq_zero]
          intro x hx
          simp only [decide_eq_true_eq, cmpI_neg]
          rcases List.mem_cons.1 hx with rfl | hx
          · exact ha
          · have := h1.1 x hx; omega
        rw [e]
        refine ⟨fun x hx => by simp at hx, fun x hx => ?_⟩
        rcases List.mem_cons.1 hx with rfl | hx
        · omega
        · have := h1.1 x hx; omega
  exact key h hu
theorem ins_up {h : List Int} (hu : h.Pairwise (fun x y => x < y)) {n : Int} (hn : n ∉ h) : (h.take (low (fun (y : Int) => cmpI y n) h) ++ [n] ++ h.drop (low (fun (y : Int) => cmpI y n) h)).Pairwise (fun x y => x < y) ∧ ∀ x, x ∈ (h.take (low (fun (y : Int) => cmpI y n) h) ++ [n] ++ h.drop (low (fun (y : Int) => cmpI y n) h)) ↔ x = n ∨ x ∈ h := by
  obtain ⟨h1, h2⟩ := low_parts hu n
  have h2' : ∀ x ∈ h.drop (low (fun (y : Int) => cmpI y n) h), n < x := fun x hx => by
    have h3 := h2 x hx
    have h4 : x ≠ n := fun e => hn (e ▸ List.mem_of_mem_drop hx)
    omega
  have h5 : (h.take (low (fun (y : Int) => cmpI y n) h) ++ h.drop (low (fun (y : Int) => cmpI y n) h)).Pairwise (fun x y => x < y) := by rw [List.take_append_drop]; exact hu
  have h6 := List.pairwise_append.1 h5
  constructor
  · rw [List.append_assoc]
    refine List.pairwise_append.2 ⟨h6.1, List.pairwise_append.2 ⟨List.pairwise_singleton _ _, h6.2.1, fun x hx y hy => ?_⟩, fun x hx y hy => ?_⟩
    · rw [List.mem_singleton.1 hx]; exact h2' y hy
    · rcases List.mem_append.1 hy with hy | hy
      · rw [List.mem_singleton.1 hy]; exact h1 x hx
      · exact h6.2.2 x hx y hy
  · intro x
    have : x ∈ h ↔ x ∈ h.take (low (fun (y : Int) => cmpI y n) h) ∨ x ∈ h.drop (low (fun (y : Int) => cmpI y n) h) := by rw [← List.mem_append, List.take_append_drop]
    simp only [List.mem_append, List.mem_singleton, this]
    constructor
    · rintro ((h7 | h7) | h7)
      · exact .inr (.inl h7)
      · exact .inl h7
      · exact .inr (.inr h7)
    · rintro (h7 | h7 | h7)
      · exact .inl (.inr h7)
      · exact .inl (.inl h7)
      · exact .inr h7
theorem pick_ins {h : List Int} (hr : risesL 16 1 h = true) {n : Int} (h1 : 1 ≤ n) (h2 : n ≤ 16) (hn : n ∉ h) : pickL (fun m => h.contains m || decide (m = n)) 16 = h.take (low (fun (y : Int) => cmpI y n) h) ++ [n] ++ h.drop (low (fun (y : Int) => cmpI y n) h) := by
  have hi := ins_up (risesL_up _ _ hr) hn
  refine up_ext _ _ (pickL_up _ _) hi.1 fun x => ?_
  rw [pickL_mem, hi.2]
  simp only [Bool.or_eq_true, List.contains_iff_mem, decide_eq_true_eq]
  constructor
  · rintro ⟨_, _, h4 | h4⟩
    · exact .inr h4
    · exact .inl h4
  · rintro (h4 | h4)
    · subst h4; exact ⟨h1, h2, .inr rfl⟩
    · have h5 := risesL_gt _ _ hr x h4
      exact ⟨h5.1, h5.2, .inl h4⟩
theorem filter_del {h : List Int} (hu : h.Pairwise (fun x y => x < y)) {n : Int} (hn : hits (fun (y : Int) => cmpI y n) h = true) : h.filter (fun m => decide (m ≠ n)) = h.take (low (fun (y : Int) => cmpI y n) h) ++ h.drop (low (fun (y : Int) => cmpI y n) h + 1) := by
  obtain ⟨x, hx, hk⟩ := hits_at (key := fun (x : Int) => x) hn
  have hk : x = n := hk
  subst hk
  have hlt := lt_of_get hx
  have e : h = h.take (low (fun (y : Int) => cmpI y x) h) ++ x :: h.drop (low (fun (y : Int) => cmpI y x) h + 1) := by
    rw [show x :: h.drop (low (fun (y : Int) => cmpI y x) h + 1) = h.drop (low (fun (y : Int) => cmpI y x) h) from by
      rw [List.drop_eq_getElem_cons hlt, (List.getElem?_eq_some_iff.1 hx).2]]
    rw [List.take_append_drop]
  have hu2 := hu
  rw [e] at hu2
  have h3 := List.pairwise_append.1 hu2
  have h4 := List.pairwise_cons.1 h3.2.1
  have h5 : ∀ y ∈ h.take (low (fun (y : Int) => cmpI y x) h), decide (y ≠ x) = true := fun y hy => by have := h3.2.2 y hy x (by simp); simp; omega
  have h6 : ∀ y ∈ h.drop (low (fun (y : Int) => cmpI y x) h + 1), decide (y ≠ x) = true := fun y hy => by have := h4.1 y hy; simp; omega
  calc h.filter (fun m => decide (m ≠ x)) = (h.take (low (fun (y : Int) => cmpI y x) h) ++ x :: h.drop (low (fun (y : Int) => cmpI y x) h + 1)).filter (fun m => decide (m ≠ x)) := by rw [← e]
    _ = _ := by rw [List.filter_append, List.filter_cons_of_neg (by simp), List.filter_eq_self.2 h5, List.filter_eq_self.2 h6]
def insAt (l : List AChunk) (c : AChunk) (n k : Nat) : List AChunk := if n < k then l.take n ++ [c] ++ (l.take k).drop n else l.take k
theorem insAt_zero (l : List AChunk) (c : AChunk) (n : Nat) : insAt l c n 0 = [] := by simp [insAt]
theorem insAt_len (l : List AChunk) (c : AChunk) (n k : Nat) : (insAt l c n k).length ≤ l.length + 1 := by
  unfold insAt; split <;> simp <;> omega
theorem insAt_ne {l : List AChunk} {c x : AChunk} {n k : Nat} (hx : l[k]? = some x) (h : k ≠ n) : insAt l c n (k + 1) = insAt l c n k ++ [x] := by
  have hk := lt_of_get hx
  unfold insAt
  by_cases h1 : n < k
  · rw [if_pos (by omega), if_pos h1, take_snoc hx, List.drop_append_of_le_length (by simp; omega)]; simp
  · rw [if_neg (by omega), if_neg h1, take_snoc hx]
theorem insAt_eq {l : List AChunk} {c x : AChunk} {n : Nat} (hx : l[n]? = some x) : insAt l c n (n + 1) = insAt l c n n ++ [c] ++ [x] := by
  unfold insAt
  rw [if_pos (by omega), if_neg (by omega), take_snoc hx, List.drop_append_of_le_length (by have := lt_of_get hx; simp; omega), List.drop_of_length_le (by simp; omega)]; simp
theorem low_key {l : List AChunk} (hu : Up AChunk.ID l) {id : Int} {k : Nat} {x : AChunk} (hx : l[k]? = some x) : x.ID < id ↔ k < low (fun (y : AChunk) => cmpI y.ID id) l := by
  have hm := hu.mono id
  constructor
  · intro h
    rcases Nat.lt_or_ge k (low (fun (y : AChunk) => cmpI y.ID id) l) with h1 | h1
    · exact h1
    · exfalso
      have h2 : low (fun (y : AChunk) => cmpI y.ID id) l ≥ k + 1 := by
        have e : l = l.take (k + 1) ++ l.drop (k + 1) := (List.take_append_drop _ _).symm
        have h3 : (l.take (k + 1)).countP (fun (y : AChunk) => decide (cmpI y.ID id < 0)) = (l.take (k + 1)).length := by
          rw [List.countP_eq_length]
          intro y hy
          obtain ⟨a, ha⟩ := List.getElem?_of_mem hy
          have ha1 := lt_of_get ha
          simp only [List.length_take] at ha1
          rw [List.getElem?_take_of_lt (by omega)] at ha
          simp only [decide_eq_true_eq]
          exact hm a k y x (by omega) ha hx (cmpI_neg.2 h)
        unfold low
        rw [e, List.countP_append, h3, List.length_take]
        have := lt_of_get hx
        omega
      omega
  · intro h
    rcases (by omega : x.ID < id ∨ id ≤ x.ID) with h1 | h1
    · exact h1
    · exfalso
      have h2 : low (fun (y : AChunk) => cmpI y.ID id) l ≤ k := by
        have e : l = l.take k ++ l.drop k := (List.take_append_drop _ _).symm
        have h3 : (l.drop k).countP (fun (y : AChunk) => decide (cmpI y.ID id < 0)) = 0 := by
          rw [List.countP_eq_zero]
          intro y hy
          obtain ⟨a, ha⟩ := List.getElem?_of_mem hy
          rw [List.getElem?_drop] at ha
          simp only [decide_eq_true_eq]
          intro hlt
          have := cmpI_neg.1 (hm k (k + a) x y (by omega) hx ha hlt)
          omega
        simp only [low]
        rw [e, List.countP_append, h3]
        have := List.countP_le_length (p := fun (y : AChunk) => decide (cmpI y.ID id < 0)) (l := l.take k)
        simp only [List.length_take] at this
        omega
      omega

theorem one_eq (a b : AChunk) : (((decide (a.Holders = b.Holders) && decide (a.ID = b.ID)) && decide (a.Version = b.Version)) && decide (a.Sum = b.Sum)) = decide (a = b) := by
  obtain ⟨a1, a2, a3, a4⟩ := a; obtain ⟨b1, b2, b3, b4⟩ := b
  rw [Bool.eq_iff_iff]
  simp only [Bool.and_eq_true, decide_eq_true_eq, AChunk.mk.injEq]
  constructor
  · rintro ⟨⟨⟨h1, h2⟩, h3⟩, h4⟩; exact ⟨h2, h3, h4, h1⟩
  · rintro ⟨h2, h3, h4, h1⟩; exact ⟨⟨⟨h1, h2⟩, h3⟩, h4⟩
theorem take_all_eq {α : Type} {a b : List α} {k : Nat} (h : a.take k = b.take k) (h1 : a.length ≤ k) (h2 : a.length = b.length) : a = b := by
  rwa [List.take_of_length_le h1, List.take_of_length_le (by omega)] at h
theorem take_ne {α : Type} {a b : List α} {k : Nat} {x y : α} (hx : a[k]? = some x) (hy : b[k]? = some y) (h : x ≠ y) : a ≠ b := by
  rintro rfl; rw [hx] at hy; cases hy; exact h rfl
theorem take_eq_snoc {α : Type} {a b : List α} {k : Nat} {x y : α} (h : a.take k = b.take k) (hx : a[k]? = some x) (hy : b[k]? = some y) (e : x = y) : a.take (k + 1) = b.take (k + 1) := by
  rw [take_snoc hx, take_snoc hy, h, e]

theorem contains_hits {c : AChunk} (ho : cOne c = true) (n : Int) : hits (fun (y : Int) => cmpI y n) c.Holders = c.Holders.contains n := by
  rw [Bool.eq_iff_iff, hold_iff ho, List.contains_iff_mem]
theorem unclaim_yes {c : AChunk} {node : Int} (ho : cOne c = true) (h : c.Holders.contains node = true) : unclaimF node c = (⟨c.ID, c.Version, c.Sum, c.Holders.filter (fun (m : Int) => decide (m ≠ node))⟩, 0) := by
  rw [← contains_hits ho] at h
  unfold unclaimF; rw [if_pos h, filter_del (cOne_up ho) h]
theorem unclaim_no {c : AChunk} {node : Int} (ho : cOne c = true) (h : c.Holders.contains node = false) : unclaimF node c = (c, 5) := by
  rw [← contains_hits ho] at h
  unfold unclaimF; rw [if_neg (by rw [h]; decide)]
theorem claim_there {c : AChunk} {node version : Int} (ho : cOne c = true) (hv : version = c.Version) (h : c.Holders.contains node = true) : claimF node version c = (c, 6) := by
  rw [← contains_hits ho] at h
  unfold claimF; rw [if_neg (by simpa using hv), if_pos h]
theorem claim_yes {c : AChunk} {node version : Int} (ho : cOne c = true) (hv : version = c.Version) (h : c.Holders.contains node = false) (h1 : 1 ≤ node) (h2 : node ≤ 16) : claimF node version c = (⟨c.ID, c.Version, c.Sum, pickL (fun (m : Int) => c.Holders.contains m || decide (m = node)) 16⟩, 0) := by
  have hn : node ∉ c.Holders := fun hm => by rw [List.contains_iff_mem.2 hm] at h; cases h
  rw [pick_ins (cOne_rise ho).2.2 h1 h2 hn]
  rw [← contains_hits ho] at h
  unfold claimF; rw [if_neg (by simpa using hv), if_neg (by rw [h]; decide)]
theorem create_err {l : List AChunk} {id sum : Int} : (id < 1 ∨ 1048576 < id → createL l id sum = ([], 1)) ∧ (¬ (id < 1 ∨ 1048576 < id) → findB l id = true → createL l id sum = ([], 6)) ∧ (¬ (id < 1 ∨ 1048576 < id) → findB l id = false → 32 ≤ (cFair l).length → createL l id sum = ([], 7)) ∧
    (¬ (id < 1 ∨ 1048576 < id) → findB l id = false → (cFair l).length < 32 → createL l id sum = ((cFair l).take (low (fun (y : AChunk) => cmpI y.ID id) (cFair l)) ++ [⟨id, 1, sum, []⟩] ++ (cFair l).drop (low (fun (y : AChunk) => cmpI y.ID id) (cFair l)), 0)) := by
  unfold createL findB
  refine ⟨fun h => if_pos h, fun h1 h2 => (if_neg h1).trans (if_pos h2), fun h1 h2 h3 => (if_neg h1).trans ((if_neg (by rw [h2]; decide)).trans (if_pos h3)), fun h1 h2 h3 => (if_neg h1).trans ((if_neg (by rw [h2]; decide)).trans (if_neg (by omega)))⟩
theorem insAt_all {l : List AChunk} {c : AChunk} {n k : Nat} (hk : l.length ≤ k) (h : n < k) : insAt l c n k = l.take n ++ [c] ++ l.drop n := by
  unfold insAt; rw [if_pos h, List.take_of_length_le hk]
theorem insAt_end {l : List AChunk} {c : AChunk} {n k : Nat} (hk : l.length ≤ k) (hn : n ≤ l.length) (h : ¬ n < k) : insAt l c n k ++ [c] = l.take n ++ [c] ++ l.drop n := by
  unfold insAt; rw [if_neg h, List.take_of_length_le hk, List.take_of_length_le (by omega), List.drop_of_length_le (by omega)]; simp

theorem rises_iff {most : Int} : ∀ (l : List Int) (z : Int), risesL most z l = true ↔ l.Pairwise (fun x y => x < y) ∧ ∀ x ∈ l, z ≤ x ∧ x ≤ most
  | [], z => by simp [risesL]
  | y :: l, z => by
    constructor
    · intro h; exact ⟨risesL_up _ _ h, risesL_gt _ _ h⟩
    · rintro ⟨h1, h2⟩
      have h3 := List.pairwise_cons.1 h1
      have h4 := h2 y (by simp)
      simp only [risesL, Bool.and_eq_true, Bool.not_eq_true', Bool.or_eq_false_iff, decide_eq_false_iff_not]
      refine ⟨⟨by omega, by omega⟩, (rises_iff l (y + 1)).2 ⟨h3.2, fun x hx => ?_⟩⟩
      have h5 := h3.1 x hx
      have h6 := h2 x (by simp [hx])
      omega
theorem rises_sub {most z : Int} {l m : List Int} (h : risesL most z l = true) (s : m.Sublist l) : risesL most z m = true := by
  obtain ⟨h1, h2⟩ := (rises_iff l z).1 h
  exact (rises_iff m z).2 ⟨h1.sublist s, fun x hx => h2 x (s.subset hx)⟩
theorem may_sub {l m : List AChunk} (h : cMay l = true) (s : m.Sublist l) : cMay m = true := by
  obtain ⟨h1, h2, h3⟩ := cMay_iff.1 h
  exact cMay_iff.2 ⟨fun x hx => h1 x (s.subset hx), Nat.le_trans s.length_le h2, rises_sub h3 (s.map _)⟩
theorem cut_sub {α : Type} (l : List α) (i : Nat) : (l.take i ++ l.drop (i + 1)).Sublist l := by
  rw [← List.eraseIdx_eq_take_drop_succ]; exact List.eraseIdx_sublist ..
theorem one_hold {c : AChunk} {h : List Int} (ho : cOne c = true) (hr : risesL 16 1 h = true) : cOne { c with Holders := h } = true := by
  have := cOne_rise ho
  simp [cOne, hr]; omega
theorem one_unclaim {c : AChunk} {i : Nat} (ho : cOne c = true) : cOne { c with Holders := c.Holders.take i ++ c.Holders.drop (i + 1) } = true := one_hold ho (rises_sub (cOne_rise ho).2.2 (cut_sub _ _))
theorem one_claim {c : AChunk} {node : Int} (ho : cOne c = true) (h1 : 1 ≤ node) (h2 : node ≤ 16) (hn : node ∉ c.Holders) : cOne { c with Holders := c.Holders.take (low (fun (y : Int) => cmpI y node) c.Holders) ++ [node] ++ c.Holders.drop (low (fun (y : Int) => cmpI y node) c.Holders) } = true := by
  refine one_hold ho ((rises_iff _ _).2 ?_)
  obtain ⟨h3, h4⟩ := ins_up (cOne_up ho) hn
  refine ⟨h3, fun x hx => ?_⟩
  rcases (h4 x).1 hx with rfl | hx
  · exact ⟨h1, h2⟩
  · exact risesL_gt _ _ (cOne_rise ho).2.2 x hx
/-- what a change of one chunk does -/
theorem chg_cases (l : List AChunk) (id : Int) (f : AChunk → AChunk × Int) : (findB l id = false ∧ chgL l id f = ([], 5)) ∨ (findB l id = true ∧ (f (findC l id)).2 ≠ 0 ∧ chgL l id f = ([], (f (findC l id)).2)) ∨
    (findB l id = true ∧ (f (findC l id)).2 = 0 ∧ ∃ n, (cFair l)[n]? = some (findC l id) ∧ (findC l id).ID = id ∧ chgL l id f = ((cFair l).set n (f (findC l id)).1, 0)) := by
  rcases at_spec l id with ⟨_, h⟩ | ⟨n, x, _, h1, h2, h3, h4, h5⟩
  · exact .inl ⟨h, chg_no h f⟩
  · subst h4
    have h6 := chg_idx h3 h1 h5 f
    by_cases h7 : (f (findC l id)).2 = 0
    · rw [if_pos h7] at h6
      exact .inr (.inr ⟨h3, h7, n, h1, h2, h6⟩)
    · rw [if_neg h7] at h6
      exact .inr (.inl ⟨h3, h7, h6⟩)
theorem write_ok1 {c : AChunk} {sum : Int} (ho : cOne c = true) (he : (writeF sum c).2 = 0) : (writeF sum c).1 = { c with Version := c.Version + 1, Sum := sum, Holders := [] } ∧ cOne (writeF sum c).1 = true ∧ (writeF sum c).1.ID = c.ID := by
  unfold writeF at he ⊢
  by_cases h : 1073741824 ≤ c.Version
  · rw [if_pos h] at he; simp at he
  · rw [if_neg h]; exact ⟨rfl, cOne_write ho (by omega) sum, rfl⟩
theorem claim_ok1 {c : AChunk} {node version : Int} (ho : cOne c = true) (h1 : 1 ≤ node) (h2 : node ≤ 16) (he : (claimF node version c).2 = 0) : version = c.Version ∧ node ∉ c.Holders ∧ (claimF node version c).1 = { c with Holders := c.Holders.take (low (fun (y : Int) => cmpI y node) c.Holders) ++ [node] ++ c.Holders.drop (low (fun (y : Int) => cmpI y node) c.Holders) } ∧ cOne (claimF node version c).1 = true ∧ (claimF node version c).1.ID = c.ID := by
  unfold claimF at he ⊢
  by_cases h : version ≠ c.Version
  · rw [if_pos h] at he; simp at he
  · rw [if_neg h] at he ⊢
    by_cases h3 : hits (fun (y : Int) => cmpI y node) c.Holders = true
    · rw [if_pos h3] at he; simp at he
    · have h4 : node ∉ c.Holders := fun hm => h3 ((hold_iff ho node).2 hm)
      rw [if_neg h3]; exact ⟨by omega, h4, rfl, one_claim ho h1 h2 h4, rfl⟩
theorem unclaim_ok1 {c : AChunk} {node : Int} (ho : cOne c = true) (he : (unclaimF node c).2 = 0) : node ∈ c.Holders ∧ (unclaimF node c).1 = { c with Holders := c.Holders.take (low (fun (y : Int) => cmpI y node) c.Holders) ++ c.Holders.drop (low (fun (y : Int) => cmpI y node) c.Holders + 1) } ∧ cOne (unclaimF node c).1 = true ∧ (unclaimF node c).1.ID = c.ID := by
  unfold unclaimF at he ⊢
  by_cases h3 : hits (fun (y : Int) => cmpI y node) c.Holders = true
  · rw [if_pos h3]; exact ⟨(hold_iff ho node).1 h3, rfl, one_unclaim ho, rfl⟩
  · rw [if_neg h3] at he; simp at he
/-- a change that went well -/
def Good (f : AChunk → AChunk × Int) : Prop := ∀ c, cOne c = true → (f c).2 = 0 → cOne (f c).1 = true ∧ (f c).1.ID = c.ID
theorem good_write (sum : Int) : Good (writeF sum) := fun _ ho he => (write_ok1 ho he).2
theorem good_claim {node : Int} (version : Int) (h1 : 1 ≤ node) (h2 : node ≤ 16) : Good (claimF node version) := fun _ ho he => (claim_ok1 ho h1 h2 he).2.2.2
theorem good_unclaim (node : Int) : Good (unclaimF node) := fun _ ho he => (unclaim_ok1 ho he).2.2
theorem chg_may (l : List AChunk) (id : Int) {f : AChunk → AChunk × Int} (hf : Good f) : cMay (chgL l id f).1 = true ∧ ((chgL l id f).2 ≠ 0 → (chgL l id f).1 = []) := by
  rcases chg_cases l id f with ⟨_, h⟩ | ⟨_, h1, h⟩ | ⟨h0, h1, n, h2, h3, h⟩
  · rw [h]; exact ⟨rfl, fun _ => rfl⟩
  · rw [h]; exact ⟨rfl, fun _ => rfl⟩
  · rw [h]
    have h4 := hf _ (cFair_one l _ (mem_of_get h2)) h1
    exact ⟨set_may (cFair_may l) h2 h4.2 h4.1, fun h => absurd rfl h⟩
theorem low_ids (l : List AChunk) (id : Int) : low (fun (y : Int) => cmpI y id) (l.map AChunk.ID) = low (fun (y : AChunk) => cmpI y.ID id) l := by
  simp only [low]; rw [List.countP_map]; rfl
theorem create_cases (l : List AChunk) (id sum : Int) : ((createL l id sum).1 = [] ∧ (createL l id sum).2 ≠ 0) ∨ (1 ≤ id ∧ id ≤ 1048576 ∧ findB l id = false ∧ (cFair l).length < 32 ∧ createL l id sum = ((cFair l).take (low (fun (y : AChunk) => cmpI y.ID id) (cFair l)) ++ [⟨id, 1, sum, []⟩] ++ (cFair l).drop (low (fun (y : AChunk) => cmpI y.ID id) (cFair l)), 0)) := by
  obtain ⟨h1, h2, h3, h4⟩ := create_err (l := l) (id := id) (sum := sum)
  by_cases a : id < 1 ∨ 1048576 < id
  · left; rw [h1 a]; exact ⟨rfl, by decide⟩
  · cases b : findB l id with
    | true => left; rw [h2 a b]; exact ⟨rfl, by decide⟩
    | false =>
      by_cases c : 32 ≤ (cFair l).length
      · left; rw [h3 a b c]; exact ⟨rfl, by decide⟩
      · right; exact ⟨by omega, by omega, rfl, by omega, h4 a b (by omega)⟩
theorem create_may (l : List AChunk) (id sum : Int) : cMay (createL l id sum).1 = true ∧ ((createL l id sum).2 ≠ 0 → (createL l id sum).1 = []) ∧ ((createL l id sum).2 = 0 → findB l id = false ∧ ∀ c : AChunk, c.ID ≠ id → (c ∈ (createL l id sum).1 ↔ c ∈ cFair l)) := by
  rcases create_cases l id sum with ⟨h1, h2⟩ | ⟨h1, h2, h3, h4, h5⟩
  · rw [h1]; exact ⟨rfl, fun _ => rfl, fun h => absurd h h2⟩
  · rw [h5]
    have hm := cFair_may l
    obtain ⟨m1, m2, m3⟩ := cMay_iff.1 hm
    obtain ⟨r1, r2⟩ := (rises_iff _ _).1 m3
    have hno : ∀ c ∈ cFair l, c.ID ≠ id := (find_none hm (by rw [(find_fair l id).2]; exact h3)).1
    have hni : id ∉ (cFair l).map AChunk.ID := fun h => by
      obtain ⟨c, hc, e⟩ := List.mem_map.1 h; exact hno c hc e
    obtain ⟨i1, i2⟩ := ins_up r1 hni
    have hmem : ∀ c : AChunk, c ∈ ((cFair l).take (low (fun (y : AChunk) => cmpI y.ID id) (cFair l)) ++ [(⟨id, 1, sum, []⟩ : AChunk)] ++ (cFair l).drop (low (fun (y : AChunk) => cmpI y.ID id) (cFair l))) ↔ c = ⟨id, 1, sum, []⟩ ∨ c ∈ cFair l := fun c => by
      have : c ∈ cFair l ↔ c ∈ (cFair l).take (low (fun (y : AChunk) => cmpI y.ID id) (cFair l)) ∨ c ∈ (cFair l).drop (low (fun (y : AChunk) => cmpI y.ID id) (cFair l)) := by rw [← List.mem_append, List.take_append_drop]
      simp only [List.mem_append, List.mem_singleton, this]
      constructor
      · rintro ((h7 | h7) | h7)
        · exact .inr (.inl h7)
        · exact .inl h7
        · exact .inr (.inr h7)
      · rintro (h7 | h7 | h7)
        · exact .inl (.inr h7)
        · exact .inl (.inl h7)
        · exact .inr h7
    refine ⟨cMay_iff.2 ⟨fun c hc => ?_, ?_, ?_⟩, fun h => absurd rfl h, fun _ => ⟨h3, fun c hc => ?_⟩⟩
    · rcases (hmem c).1 hc with rfl | hc
      · rfl
      · exact m1 c hc
    · have := low_le (fun (y : AChunk) => cmpI y.ID id) (cFair l)
      simp only [List.length_append, List.length_take, List.length_drop, List.length_cons, List.length_nil]; omega
    · rw [rises_iff]
      have e : (((cFair l).take (low (fun (y : AChunk) => cmpI y.ID id) (cFair l)) ++ [(⟨id, 1, sum, []⟩ : AChunk)] ++ (cFair l).drop (low (fun (y : AChunk) => cmpI y.ID id) (cFair l))).map AChunk.ID) = ((cFair l).map AChunk.ID).take (low (fun (y : Int) => cmpI y id) ((cFair l).map AChunk.ID)) ++ [id] ++ ((cFair l).map AChunk.ID).drop (low (fun (y : Int) => cmpI y id) ((cFair l).map AChunk.ID)) := by
        rw [low_ids, List.map_append, List.map_append, List.map_take, List.map_drop]; rfl
      rw [e]
      refine ⟨i1, fun x hx => ?_⟩
      rcases (i2 x).1 hx with rfl | hx
      · exact ⟨h1, h2⟩
      · exact r2 x hx
    · rw [hmem]
      constructor
      · rintro (rfl | h)
        · exact absurd rfl hc
        · exact h
      · exact .inr
theorem forget_may (l : List AChunk) (id : Int) : cMay (forgetL l id).1 = true ∧ ((forgetL l id).2 ≠ 0 → (forgetL l id).1 = []) ∧ ((forgetL l id).2 = 0 → findB l id = true ∧ findB (forgetL l id).1 id = false ∧ (forgetL l id).1.length + 1 = (cFair l).length ∧ ∀ c : AChunk, c.ID ≠ id → (c ∈ (forgetL l id).1 ↔ c ∈ cFair l)) := by
  rcases at_spec l id with ⟨_, h⟩ | ⟨n, x, _, h1, h2, h3, h4, h5⟩
  · rw [forget_no h]; exact ⟨rfl, fun _ => rfl, fun h => by simp at h⟩
  · rw [forget_idx h3 h5]
    have hm := may_sub (cFair_may l) (cut_sub (cFair l) n)
    have hlt := lt_of_get h1
    have hmem : ∀ c, c ∈ cFair l ↔ c = x ∨ c ∈ (cFair l).take n ++ (cFair l).drop (n + 1) := fun c => by
      have e : cFair l = (cFair l).take n ++ x :: (cFair l).drop (n + 1) := by
        rw [show x :: (cFair l).drop (n + 1) = (cFair l).drop n from by rw [List.drop_eq_getElem_cons hlt, (List.getElem?_eq_some_iff.1 h1).2], List.take_append_drop]
      constructor
      · intro h; rw [e] at h
        rcases List.mem_append.1 h with h | h
        · exact .inr (List.mem_append.2 (.inl h))
        · rcases List.mem_cons.1 h with h | h
          · exact .inl h
          · exact .inr (List.mem_append.2 (.inr h))
      · rintro (h | h)
        · rw [h]; exact mem_of_get h1
        · exact (cut_sub (cFair l) n).subset h
    have hu := may_up (cFair_may l)
    have hgone : ∀ c ∈ (cFair l).take n ++ (cFair l).drop (n + 1), c.ID ≠ id := fun c hc e => by
      rcases List.mem_append.1 hc with h | h
      · obtain ⟨a, ha⟩ := List.getElem?_of_mem h
        have h6 := lt_of_get ha
        simp only [List.length_take] at h6
        rw [List.getElem?_take_of_lt (by omega)] at ha
        have := hu.get (by omega : a < n) ha h1; omega
      · obtain ⟨a, ha⟩ := List.getElem?_of_mem h
        rw [List.getElem?_drop] at ha
        have := hu.get (by omega : n < n + 1 + a) h1 ha; omega
    refine ⟨hm, fun h => absurd rfl h, fun _ => ⟨h3, ?_, ?_, fun c hc => ?_⟩⟩
    · cases hb : findB ((cFair l).take n ++ (cFair l).drop (n + 1)) id with
      | false => rfl
      | true => exact absurd (find_get hm hb).2 (hgone _ (find_in hm hb))
    · simp only [List.length_append, List.length_take, List.length_drop]; omega
    · rw [hmem c]
      constructor
      · exact .inr
      · rintro (h | h)
        · subst h; exact absurd h2 hc
        · exact h
theorem claim_may (l : List AChunk) (id node version : Int) : cMay (claimL l id node version).1 = true ∧ ((claimL l id node version).2 ≠ 0 → (claimL l id node version).1 = []) := by
  unfold claimL
  split
  · exact ⟨rfl, fun _ => rfl⟩
  · exact chg_may l id (good_claim version (by omega) (by omega))



end Go.Proofs.YtigmondpokkaoaaGreat
