/- Texts that the statement needs, with short names. -/
import Derived.Test.YtjcklpooaaaglaaGreatvG11
set_option maxRecDepth 4000
set_option linter.all false
namespace Go.Proofs.YtjcklpooaaaglaaGreat
open Go.RowKit
def Tj {α : Type} (le : α → α → Bool) (x : α) : List α → List α
  | [] => [x]
  | y :: l => if le x y = true then x :: y :: l else y :: Tj le x l
def Ie {α : Type} (le : α → α → Bool) (l : List α) : List α := l.foldr (Tj le) []
theorem BG {α : Type} (le : α → α → Bool) (x : α) : ∀ l : List α, (Tj le x l).Perm (x :: l)
  | [] => List.Perm.refl _
  | y :: l => by
    unfold Tj; split
    · exact List.Perm.refl _
    · exact ((BG le x l).cons y).trans (List.Perm.swap x y l)
theorem QM {α : Type} {le : α → α → Bool} (tr : ∀ a b c, le a b = true → le b c = true → le a c = true) (to : ∀ a b, le a b = true ∨ le b a = true) (x : α) : ∀ l : List α, l.Pairwise (fun a b => le a b = true) → (Tj le x l).Pairwise (fun a b => le a b = true)
  | [], _ => List.pairwise_singleton _ _
  | y :: l, h => by
    unfold Tj
    have h1 := List.pairwise_cons.1 h
    split
    · rename_i hc
      exact List.pairwise_cons.2 ⟨fun z hz => by
        rcases List.mem_cons.1 hz with rfl | hz
        · exact hc
        · exact tr _ _ _ hc (h1.1 z hz), h⟩
    · rename_i hc
      refine List.pairwise_cons.2 ⟨fun z hz => ?_, QM tr to x l h1.2⟩
      rcases List.mem_cons.1 ((BG le x l).mem_iff.1 hz) with rfl | hz
      · exact (to y z).resolve_right hc
      · exact h1.1 z hz
theorem vC {α : Type} (le : α → α → Bool) : ∀ l : List α, (Ie le l).Perm l
  | [] => List.Perm.refl _
  | x :: l => (BG le x (Ie le l)).trans ((vC le l).cons x)
theorem Fh {α : Type} {le : α → α → Bool} (tr : ∀ a b c, le a b = true → le b c = true → le a c = true) (to : ∀ a b, le a b = true ∨ le b a = true) : ∀ l : List α, (Ie le l).Pairwise (fun a b => le a b = true)
  | [] => List.Pairwise.nil
  | x :: l => QM tr to x _ (Fh tr to l)
theorem Nb {α : Type} {le : α → α → Bool} (tr : ∀ a b c, le a b = true → le b c = true → le a c = true) (to : ∀ a b, le a b = true ∨ le b a = true) {l : List α} (an : ∀ a ∈ l, ∀ b ∈ l, le a b = true → le b a = true → a = b) : l.mergeSort le = Ie le l :=
  List.Perm.eq_of_pairwise (le := fun a b => le a b = true) (fun a b ha hb h1 h2 => an a (List.mem_mergeSort.1 ha) b ((vC le l).mem_iff.1 hb) h1 h2) (List.pairwise_mergeSort tr (fun a b => by rcases to a b with h | h <;> simp [h]) l) (Fh tr to l) ((List.mergeSort_perm l le).trans (vC le l).symm)
theorem Nc (h : List Int) (fr dM : Int) : tN h fr dM = Ie (fun (x y : Int) => decide (x ≤ y)) ((h.filter fun (x9 : Int) => !(decide (x9 = fr))) ++ [dM]) :=
  Nb (fun a b c h1 h2 => by simp at h1 h2 ⊢; omega) (fun a b => by simp; omega) (fun a _ b _ h1 h2 => by simp at h1 h2; omega)
open Go.Sort in
theorem ahu {cf : ANode → ANode → Int} (hO : SWO (ltOf cf)) {l : List ANode} (hu : ∀ x ∈ l, ∀ y ∈ l, ¬ cf x y < 0 → ¬ cf y x < 0 → x = y) : pF cf l = Ie (fun x y => !decide (cf y x < 0)) l := by
  refine Nb (fun a b c h1 h2 => ?_) (fun a b => ?_) (fun a ha b hb h1 h2 => ?_)
  · have h3 := hO.ntrans c b a
    simp only [ltOf, Bool.not_eq_true', decide_eq_false_iff_not] at h1 h2 h3 ⊢
    exact h3 h2 h1
  · by_cases h1 : cf b a < 0
    · by_cases h2 : cf a b < 0
      · have h3 := hO.trans a b a (by simp [ltOf, h2]) (by simp [ltOf, h1])
        rw [hO.irrefl] at h3; cases h3
      · right; simp [h2]
    · left; simp [h1]
  · simp only [Bool.not_eq_true', decide_eq_false_iff_not] at h1 h2
    exact hu a ha b hb h2 h1
theorem Fj (h : List Int) (fr dM : Int) : (tN h fr dM).Perm ((h.filter fun (x9 : Int) => !(decide (x9 = fr))) ++ [dM]) := by rw [Nc]; exact vC _ _
theorem Tq {h : List Int} {fr dM x : Int} : x ∈ tN h fr dM ↔ x ∈ h ∧ x ≠ fr ∨ x = dM := by
  rw [(Fj h fr dM).mem_iff]; simp
theorem Xl {h : List Int} (hu : h.Pairwise (fun x y => x < y)) {fr dM : Int} (hn : dM ∉ h) : (tN h fr dM).Pairwise (fun x y => x < y) := by
  have h1 : (tN h fr dM).Pairwise (fun a b => decide (a ≤ b) = true) := by rw [Nc]; exact Fh (fun a b c h1 h2 => by simp at h1 h2 ⊢; omega) (fun a b => by simp; omega) _
  have h2 : (tN h fr dM).Pairwise (fun a b => a ≠ b) := by
    refine ((Fj h fr dM).nodup_iff).2 (List.nodup_append.2 ⟨(hu.filter _).imp (fun h => by omega), by simp, fun x hx y hy e => ?_⟩)
    rw [List.mem_singleton.1 hy] at e
    exact hn (e ▸ (List.mem_filter.1 hx).1)
  exact (List.Pairwise.and h1 h2).imp (fun h => by have := of_decide_eq_true h.1; have := h.2; omega)
theorem Zd : ∀ {l m : List Int}, l.Pairwise (fun x y => x < y) → m.Pairwise (fun x y => x < y) → (∀ x, x ∈ l ↔ x ∈ m) → l = m := fun {l m} hl hm h =>
  List.Perm.eq_of_pairwise (le := fun a b => a ≤ b) (fun a b _ _ h1 h2 => by omega) (hl.imp (fun h => by omega)) (hm.imp (fun h => by omega)) ((List.perm_ext_iff_of_nodup (hl.imp (fun h => by omega)) (hm.imp (fun h => by omega))).2 h)
theorem Nh (ah : List Int) (n : ANode) : (!uI ah n) = (ah.contains n.ID && decide (n.dz = 0)) := by
  unfold uI; cases ah.contains n.ID <;> simp
theorem Tt (l : List ANode) (ah : List Int) : (dD l).filter (fun (n : ANode) => !uI ah n) = aU l ah := by
  unfold dD aU; split <;> rfl
theorem Ni (cs : List AChunk) (l : List ANode) : (dD l).map (fun (n : ANode) => (⟨n.ID, (bQ cs n.ID : Int)⟩ : bP)) = iU cs l := by
  unfold dD iU; split <;> rfl
theorem Ig (l : List ANode) : ∀ (ids s : List Int) (r : Int), r ∈ ids.foldl (tO l) s ↔ r ∈ s ∨ ∃ id ∈ ids, bZ l id = true ∧ (bL l id).dA = r
  | [], s, r => by simp
  | id :: ids, s, r => by
    rw [List.foldl_cons, Ig l ids]
    have h1 : r ∈ tO l s id ↔ r ∈ s ∨ bZ l id = true ∧ (bL l id).dA = r := by
      unfold tO
      by_cases hb : bZ l id = true
      · rw [if_pos hb]; unfold wE
        by_cases hc : s.contains (bL l id).dA = true
        · rw [if_pos hc]
          constructor
          · exact .inl
          · rintro (h | ⟨_, h⟩)
            · exact h
            · exact h ▸ List.contains_iff_mem.1 hc
        · rw [if_neg hc, List.mem_append, List.mem_singleton]
          constructor
          · rintro (h | h)
            · exact .inl h
            · exact .inr ⟨hb, h.symm⟩
          · rintro (h | ⟨_, h⟩)
            · exact .inl h
            · exact .inr h.symm
      · rw [if_neg hb]
        constructor
        · exact .inl
        · rintro (h | h)
          · exact h
          · exact absurd h.1 hb
    rw [h1]
    constructor
    · rintro ((h | h) | ⟨i, hi, h⟩)
      · exact .inl h
      · exact .inr ⟨id, by simp, h⟩
      · exact .inr ⟨i, by simp [hi], h⟩
    · rintro (h | ⟨i, hi, h⟩)
      · exact .inl (.inl h)
      · rcases List.mem_cons.1 hi with rfl | hi
        · exact .inl (.inr h)
        · exact .inr ⟨i, hi, h⟩
theorem yU {l : List ANode} {ids : List Int} {r : Int} : r ∈ dH l ids ↔ ∃ id ∈ ids, bZ l id = true ∧ (bL l id).dA = r := by
  unfold dH; rw [Ig]; simp
theorem JM (l : List ANode) (ids : List Int) : (dH l ids).Nodup := by
  have key : ∀ (ids s : List Int), s.Nodup → (ids.foldl (tO l) s).Nodup := by
    intro ids
    induction ids with
    | nil => intro s h; exact h
    | cons id ids ih =>
      intro s h
      rw [List.foldl_cons]
      refine ih _ ?_
      unfold tO; split
      · unfold wE; split
        · exact h
        · rename_i hc
          refine List.nodup_append.2 ⟨h, by simp, fun x hx y hy e => hc ?_⟩
          rw [List.mem_singleton.1 hy] at e
          exact List.contains_iff_mem.2 (e ▸ hx)
      · exact h
  exact key ids [] List.nodup_nil
theorem O8 {l : List ANode} {id : Int} (h : bZ l id = true) : 1 ≤ (bL l id).dA ∧ (bL l id).dA ≤ 8 := by
  have h0 := h
  unfold bZ at h0
  obtain ⟨x, hx, hk⟩ := pV (key := ANode.ID) h0
  rw [uG h0 hx]
  have h2 := (wL _ _ (GL l) x (bV hx)).2
  simp only [sD, Bool.and_eq_true, decide_eq_true_eq] at h2
  exact ⟨h2.1.1.2.1, h2.1.1.2.2⟩
abbrev TV (l : List ANode) (ids : List Int) : Int → Bool := fun m => (dH l ids).contains m
theorem Nj (l : List ANode) (ids : List Int) : (iD (TV l ids) 8).length = nV l ids := by
  unfold nV
  refine ((List.perm_ext_iff_of_nodup ((DV _ 8).imp (fun h => by omega)) (JM l ids)).2 fun r => ?_).length_eq
  rw [xH, List.contains_iff_mem]
  constructor
  · exact fun h => h.2.2
  · intro h
    obtain ⟨id, _, h2, h3⟩ := yU.1 h
    have := O8 h2
    exact ⟨by omega, by omega, h⟩
theorem aaz {l : List ANode} {ids : List Int} {r : Int} (h : ∀ id ∈ ids, ¬ (bZ l id = true ∧ (bL l id).dA = r)) : TV l ids r = false := by
  rw [Bool.eq_false_iff]; intro hc
  obtain ⟨id, h1, h2⟩ := yU.1 (List.contains_iff_mem.1 hc)
  exact h id h1 h2
theorem Xm {l : List ANode} {ids : List Int} {r id : Int} (h1 : id ∈ ids) (h2 : bZ l id = true) (h3 : (bL l id).dA = r) : TV l ids r = true := List.contains_iff_mem.2 (yU.2 ⟨id, h1, h2, h3⟩)
theorem bq {f : Int → Bool} {n : Nat} (h : f ((n + 1 : Nat) : Int) = true) : (iD f (n + 1)).length = (iD f n).length + 1 := by simp only [iD]; rw [if_pos h]; simp
theorem bn {f : Int → Bool} {n : Nat} (h : f ((n + 1 : Nat) : Int) = false) : (iD f (n + 1)).length = (iD f n).length := by simp only [iD]; rw [if_neg (by rw [h]; decide)]; simp
abbrev swB (h : List Int) (fr dM : Int) : Int → Bool := fun m => (h.contains m && !decide (m = fr)) || decide (m = dM)
theorem BH {h : List Int} (hr : fB 16 1 h = true) {fr dM : Int} (h1 : 1 ≤ dM) (h2 : dM ≤ 16) (hn : dM ∉ h) : iD (swB h fr dM) 16 = tN h fr dM := by
  refine Zd (DV _ _) (Xl ((tH _ _).1 hr).1 hn) fun x => ?_
  rw [xH, Tq]
  have hb : swB h fr dM x = true ↔ x ∈ h ∧ x ≠ fr ∨ x = dM := by simp [swB]
  rw [hb]
  constructor
  · exact fun h => h.2.2
  · intro h3
    rcases h3 with h4 | h4
    · have := ((tH _ _).1 hr).2 x h4.1; exact ⟨by omega, by omega, .inl h4⟩
    · exact ⟨by omega, by omega, .inr h4⟩
def yV (x i y j x' i' y' j' : Int) : Bool := if x ≠ x' then decide (x' < x) else if i ≠ i' then decide (i' < i) else if y ≠ y' then decide (y < y') else decide (j < j')
def pG (a b : List Int) : Bool := yV (a.getD 0 0) (a.getD 1 0) (a.getD 2 0) (a.getD 3 0) (b.getD 0 0) (b.getD 1 0) (b.getD 2 0) (b.getD 3 0)
def four (cs : List AChunk) (p : ANode × ANode) : List Int := [(bQ cs p.1.ID : Int), p.1.ID, (bQ cs p.2.ID : Int), p.2.ID]
def zW (cs : List AChunk) (p q : ANode × ANode) : Bool := pG (four cs p) (four cs q)
theorem xX {cs : List AChunk} {p q : ANode × ANode} : zW cs p q = true ↔ (bQ cs q.1.ID < bQ cs p.1.ID ∨ bQ cs q.1.ID = bQ cs p.1.ID ∧ (q.1.ID < p.1.ID ∨ q.1.ID = p.1.ID ∧ (bQ cs p.2.ID < bQ cs q.2.ID ∨ bQ cs p.2.ID = bQ cs q.2.ID ∧ p.2.ID < q.2.ID))) := by
  show yV (bQ cs p.1.ID : Int) p.1.ID (bQ cs p.2.ID : Int) p.2.ID (bQ cs q.1.ID : Int) q.1.ID (bQ cs q.2.ID : Int) q.2.ID = true ↔ _
  unfold yV
  split
  · simp only [decide_eq_true_eq]; omega
  · split
    · simp only [decide_eq_true_eq]; omega
    · split <;> simp only [decide_eq_true_eq] <;> omega
def vP (cs : List AChunk) (l : List ANode) (bE : Int) (p : ANode × ANode) : Option AOrder := if (bQ cs p.1.ID : Int) - bQ cs p.2.ID ≤ (if 1 > bE then 1 else bE) ∨ p.2.fI ≤ (bQ cs p.2.ID : Int) then none else Ba cs l p.1 p.2
def stepM {α β : Type} (v : α → Option β) (less : α → α → Bool) (b : Option α) (p : α) : Option α := if (v p).isSome = true then (match b with | none => some p | some q => if less p q = true then some p else some q) else b
theorem O9 {α β : Type} [DecidableEq α] (v : α → Option β) (less : α → α → Bool) {L M : List α} (hs : L.Pairwise (fun p q => less p q = true ∧ less q p = false)) (hm : ∀ p, p ∈ M ↔ p ∈ L) :
    (M.foldl (stepM v less) none).bind v = L.findSome? v ∧ (M.foldl (stepM v less) none).isSome = (L.findSome? v).isSome := by
  cases hf : L.findSome? v with
  | none =>
    have hno := List.findSome?_eq_none_iff.1 hf
    have key : ∀ M : List α, (∀ p ∈ M, p ∈ L) → M.foldl (stepM v less) none = none := by
      intro M
      induction M with
      | nil => intro _; rfl
      | cons p M ih =>
        intro h
        rw [List.foldl_cons, show stepM v less none p = none from by unfold stepM; rw [hno p (h p (by simp))]; rfl]
        exact ih fun q hq => h q (by simp [hq])
    rw [key M fun p hp => (hm p).1 hp]; exact ⟨rfl, rfl⟩
  | some o =>
    obtain ⟨l1, a, l2, rfl, ha, h1⟩ := List.findSome?_eq_some_iff.1 hf
    have hpw := (List.pairwise_append.1 hs).2.1
    have hpa := (List.pairwise_cons.1 hpw).1
    have hq : ∀ q ∈ l1 ++ a :: l2, (v q).isSome = true → q = a ∨ (less a q = true ∧ less q a = false) := fun q hq hv => by
      rcases List.mem_append.1 hq with h2 | h2
      · rw [h1 q h2] at hv; cases hv
      · rcases List.mem_cons.1 h2 with h2 | h2
        · exact .inl h2
        · exact .inr (hpa q h2)
    have key : ∀ (M : List α) (b : Option α), (∀ p ∈ M, p ∈ l1 ++ a :: l2) → (∀ q, b = some q → q ∈ l1 ++ a :: l2 ∧ (v q).isSome = true) → (a ∈ M ∨ b = some a) → M.foldl (stepM v less) b = some a := by
      intro M
      induction M with
      | nil => intro b _ _ h; rcases h with h | h; simp at h; exact h
      | cons p M ih =>
        intro b hM hb h
        rw [List.foldl_cons]
        have hpL := hM p (by simp)
        refine ih _ (fun q hq => hM q (by simp [hq])) (fun q e => ?_) ?_
        · unfold stepM at e
          by_cases hv : (v p).isSome = true
          · rw [if_pos hv] at e
            cases b with
            | none => cases e; exact ⟨hpL, hv⟩
            | some q0 =>
              simp only at e
              split at e
              · cases e; exact ⟨hpL, hv⟩
              · cases e; exact hb q rfl
          · rw [if_neg hv] at e; exact hb q e
        · by_cases haM : a ∈ M
          · exact .inl haM
          · right
            unfold stepM
            by_cases ac8 : p = a
            · subst ac8
              rw [if_pos (by rw [ha]; rfl)]
              cases b with
              | none => rfl
              | some q0 =>
                simp only
                rcases hq q0 (hb q0 rfl).1 (hb q0 rfl).2 with h3 | h3
                · rw [h3]; exact ite_self _
                · rw [if_pos h3.1]
            · have hba : b = some a := by
                rcases h with h | h
                · rcases List.mem_cons.1 h with h | h
                  · exact absurd h.symm ac8
                  · exact absurd h haM
                · exact h
              subst hba
              by_cases hv : (v p).isSome = true
              · rw [if_pos hv]
                rcases hq p hpL hv with h3 | h3
                · exact absurd h3 ac8
                · simp only; rw [if_neg (by rw [h3.2]; decide)]
              · rw [if_neg hv]
    have e := key M none (fun p hp => (hm p).1 hp) (fun q e => by cases e) (.inl ((hm a).2 (by simp)))
    rw [e]; exact ⟨ha, rfl⟩
open Go.Sort in
theorem Xn {cf : ANode → ANode → Int} (hO : SWO (ltOf cf)) (l : List ANode) : (pF cf l).Pairwise (fun x y => ¬ cf y x < 0) := by
  have h := List.pairwise_mergeSort (le := fun x y => !decide (cf y x < 0)) (fun a b c h1 h2 => by
    have h3 := hO.ntrans c b a
    simp only [ltOf, Bool.not_eq_true', decide_eq_false_iff_not] at h1 h2 h3 ⊢
    exact h3 h2 h1) (fun a b => by
    by_cases h1 : cf b a < 0
    · by_cases h2 : cf a b < 0
      · have h3 := hO.trans a b a (by simp [ltOf, h2]) (by simp [ltOf, h1])
        rw [hO.irrefl] at h3; cases h3
      · simp [h2]
    · simp [h1]) l
  exact h.imp (fun h => by simpa using h)
theorem Ih {cf : ANode → ANode → Int} {l : List ANode} (hu : Up ANode.ID l) : (pF cf l).Pairwise (fun x y => x.ID ≠ y.ID) := by
  refine ((List.mergeSort_perm l _).pairwise_iff (fun h => fun e => h e.symm)).2 (hu.imp (fun h => by omega))
theorem JN (cs : List AChunk) (l : List ANode) (ah : List Int) : (nD cs l ah).Pairwise (fun p q => zW cs p q = true ∧ zW cs q p = false) := by
  have hu := Qf l ah
  have hf := List.Pairwise.and (Xn (U6 (bT cs l ah)) (aU l ah)) (Ih (cf := I6 (bT cs l ah)) hu)
  have ht := List.Pairwise.and (Xn (U5 (bT cs l ah)) (aU l ah)) (Ih (cf := toC (bT cs l ah)) hu)
  have efr : ∀ a b, I6 (bT cs l ah) a b = toC (bT cs l ah) b a := fun a b => D6.symm
  have aaA : ∀ p q, zW cs q p = false ↔ ¬ zW cs q p = true := fun p q => by rw [Bool.eq_false_iff]
  have hp := fun {x : ANode} (hx : x ∈ aU l ah) => (zV (cs := cs) hx).1
  unfold nD bB
  refine List.pairwise_flatMap.2 ⟨fun x hx => ?_, ?_⟩
  · refine List.pairwise_map.2 (ht.imp_of_mem fun {y z} hy hz h => ?_)
    rw [ng] at hy hz
    have h1 := h.1
    rw [sI, hp hy, hp hz] at h1
    have h2 := h.2
    clear h
    refine ⟨xX.2 (.inr ⟨Y, .inr ⟨Y, show bQ cs y.ID < bQ cs z.ID ∨ bQ cs y.ID = bQ cs z.ID ∧ y.ID < z.ID by omega⟩⟩), (aaA _ _).2 (fun h3 => ?_)⟩
    have h4 : bQ cs x.ID < bQ cs x.ID ∨ bQ cs x.ID = bQ cs x.ID ∧ (x.ID < x.ID ∨ x.ID = x.ID ∧ (bQ cs z.ID < bQ cs y.ID ∨ bQ cs z.ID = bQ cs y.ID ∧ z.ID < y.ID)) := xX.1 h3
    omega
  · refine hf.imp_of_mem fun {x x'} hx hx' h => fun p hp1 q hq1 => ?_
    obtain ⟨y, hy, rfl⟩ := List.mem_map.1 hp1
    obtain ⟨z, hz, rfl⟩ := List.mem_map.1 hq1
    rw [ng] at hx hx'
    have h1 := h.1
    rw [efr, sI, hp hx, hp hx'] at h1
    have h2 := h.2
    clear h
    refine ⟨xX.2 ?_, (aaA _ _).2 (fun h3 => ?_)⟩
    · rcases (by omega : bQ cs x'.ID < bQ cs x.ID ∨ bQ cs x'.ID = bQ cs x.ID ∧ x'.ID < x.ID) with h | h
      · exact .inl h
      · exact .inr ⟨h.1, .inl h.2⟩
    · rcases xX.1 h3 with h4 | ⟨h4, h5 | ⟨h5, _⟩⟩
      · have h4 : bQ cs x.ID < bQ cs x'.ID := h4
        omega
      · have h4 : bQ cs x.ID = bQ cs x'.ID := h4
        have h5 : x.ID < x'.ID := h5
        omega
      · have h5 : x.ID = x'.ID := h5
        omega
abbrev foldM (cs : List AChunk) (l : List ANode) (bE : Int) (M : List (ANode × ANode)) : Option (ANode × ANode) := M.foldl (stepM (vP cs l bE) (zW cs)) none
def gZ (cs : List AChunk) (b : Option (ANode × ANode)) : List Int := match b with | none => [] | some p => four cs p
def dF (cs : List AChunk) (l : List ANode) (bE : Int) (b : Option (ANode × ANode)) : AOrder := (b.bind (vP cs l bE)).getD ⟨0, 0, 0, 0, 0, 0, 0⟩
theorem zX {cs : List AChunk} (hm : jA cs = true) (l : List ANode) (ah : List Int) (bE : Int) : dF cs l bE (foldM cs l bE (bB (aU l ah) (aU l ah))) = aV cs l ah bE ∧ (foldM cs l bE (bB (aU l ah) (aU l ah))).isSome = moveB cs l ah bE := by
  have h := O9 (vP cs l bE) (zW cs) (JN cs l ah) (M := bB (aU l ah) (aU l ah)) (fun p => by unfold nD; rw [tZ, tZ, ng, ng])
  have hc : (nD cs l ah).findSome? (vP cs l bE) = (nD cs l ah).findSome? (lg cs l (bT cs l ah) bE) := by
    have key : ∀ M : List (ANode × ANode), (∀ p ∈ M, vP cs l bE p = lg cs l (bT cs l ah) bE p) → M.findSome? (vP cs l bE) = M.findSome? (lg cs l (bT cs l ah) bE) := by
      intro M
      induction M with
      | nil => intro _; rfl
      | cons p M ih => intro h; rw [List.findSome?_cons, List.findSome?_cons, h p (by simp), ih fun q hq => h q (by simp [hq])]
    refine key _ fun p hp => ?_
    unfold nD at hp
    have hp' := tZ.1 hp
    rw [ng, ng] at hp'
    unfold vP lg
    rw [(zV hp'.1).1, (zV hp'.2).1]
  rcases Ci cs l ah bE with ⟨h1, h2⟩ | ⟨h1, h2⟩
  all_goals
    unfold dF foldM
    rw [h.1, h.2, hc]
  · have e : aV cs l ah bE = ((nD cs l ah).findSome? (lg cs l (bT cs l ah) bE)).getD ⟨0, 0, 0, 0, 0, 0, 0⟩ := by unfold aV; rw [if_pos hm]
    refine ⟨e.symm, ?_⟩
    rw [h2]
    cases hf : (nD cs l ah).findSome? (lg cs l (bT cs l ah) bE) with
    | none => rfl
    | some o =>
      exfalso
      rw [hf] at e
      obtain ⟨p, hp, ho⟩ := List.exists_of_findSome?_eq_some hf
      have hp' := tZ.1 hp
      rw [ng, ng] at hp'
      obtain ⟨c, q1, q2, q3, q4, q5, q6⟩ := M8 hp'.1 hp'.2 ho
      have h7 := qm _ _ (j4.1 hm).2.2 c.ID (List.mem_map.2 ⟨c, q1, rfl⟩)
      rw [h1] at e
      have e2 : (0 : Int) = o.aB := congrArg AOrder.aB e
      rw [q6] at e2
      simp only at e2
      omega
  · have e : aV cs l ah bE = ((nD cs l ah).findSome? (lg cs l (bT cs l ah) bE)).getD ⟨0, 0, 0, 0, 0, 0, 0⟩ := by unfold aV; rw [if_pos hm]
    refine ⟨e.symm, ?_⟩
    rw [h2]
    cases hf : (nD cs l ah).findSome? (lg cs l (bT cs l ah) bE) with
    | some o => rfl
    | none =>
      exfalso
      unfold moveB at h2
      rw [e, hf] at h2
      exact absurd h2 (by decide)
theorem nR {cs : List AChunk} {l : List ANode} {bE : Int} {p : ANode × ANode} (h : (bQ cs p.1.ID : Int) - bQ cs p.2.ID ≤ (if 1 > bE then 1 else bE) ∨ p.2.fI ≤ (bQ cs p.2.ID : Int)) : vP cs l bE p = none := if_pos h
theorem aaB {cs : List AChunk} {l : List ANode} {bE : Int} {p : ANode × ANode} (h : ¬ ((bQ cs p.1.ID : Int) - bQ cs p.2.ID ≤ (if 1 > bE then 1 else bE) ∨ p.2.fI ≤ (bQ cs p.2.ID : Int))) : vP cs l bE p = Ba cs l p.1 p.2 := if_neg h
theorem xY {cs : List AChunk} {l : List ANode} {bE : Int} {M : List (ANode × ANode)} {p : ANode × ANode} : foldM cs l bE (M ++ [p]) = stepM (vP cs l bE) (zW cs) (foldM cs l bE M) p := by
  show List.foldl _ _ _ = _; rw [List.foldl_append]; rfl
theorem jm {cs : List AChunk} {l : List ANode} {bE : Int} {M : List (ANode × ANode)} {p : ANode × ANode} (h : vP cs l bE p = none) : foldM cs l bE (M ++ [p]) = foldM cs l bE M := by
  rw [xY]; generalize foldM cs l bE M = b; unfold stepM; rw [h]; rfl
theorem iH {cs : List AChunk} {l : List ANode} {bE : Int} {M : List (ANode × ANode)} {p : ANode × ANode} (h : (vP cs l bE p).isSome = true) (hb : ¬ 0 < (gZ cs (foldM cs l bE M)).length) : foldM cs l bE (M ++ [p]) = some p := by
  rw [xY]; generalize foldM cs l bE M = b at hb ⊢; unfold stepM; rw [if_pos h]
  cases b with
  | none => rfl
  | some q => exact absurd (show 0 < 4 by omega) hb
theorem jo {cs : List AChunk} {l : List ANode} {bE : Int} {M : List (ANode × ANode)} {p : ANode × ANode} (h : (vP cs l bE p).isSome = true) (hf : pG (four cs p) (gZ cs (foldM cs l bE M)) = true) : foldM cs l bE (M ++ [p]) = some p := by
  rw [xY]; generalize foldM cs l bE M = b at hf ⊢; unfold stepM; rw [if_pos h]
  cases b with
  | none => rfl
  | some q => exact if_pos hf
theorem jq {cs : List AChunk} {l : List ANode} {bE : Int} {M : List (ANode × ANode)} {p : ANode × ANode} (h : (vP cs l bE p).isSome = true) (hb : 0 < (gZ cs (foldM cs l bE M)).length) (hf : pG (four cs p) (gZ cs (foldM cs l bE M)) = false) : foldM cs l bE (M ++ [p]) = foldM cs l bE M := by
  rw [xY]; generalize foldM cs l bE M = b at hb hf ⊢; unfold stepM; rw [if_pos h]
  cases b with
  | none => exact absurd hb (show ¬ 0 < 0 by omega)
  | some q => exact if_neg (by rw [show zW cs p q = false from hf]; decide)
def bG (cs : List AChunk) (l : List ANode) (fr dM : Int) : Option AOrder := (cs.find? fun (c : AChunk) => jB c l fr dM).map fun (c : AChunk) => ⟨0, c.ID, c.ay, c.Sum, fr, dM, 0⟩
theorem Ii {cs : List AChunk} {l : List ANode} {fr dM : Int} {k : Nat} {c : AChunk} (hno : ∀ c ∈ cs.take k, jB c l fr dM = false) (hc : cs[k]? = some c) (hg : jB c l fr dM = true) : bG cs l fr dM = some ⟨0, c.ID, c.ay, c.Sum, fr, dM, 0⟩ := by
  have hs : cs = cs.take k ++ c :: cs.drop (k + 1) := by
    conv => lhs; rw [← List.take_append_drop k cs]
    rw [List.drop_eq_getElem_cons (aC hc), (List.getElem?_eq_some_iff.1 hc).2]
  unfold bG
  rw [hs, List.find?_append, List.find?_eq_none.2 (fun c hc => by simp [hno c hc])]
  simp [hg]
theorem Ij {cs : List AChunk} {l : List ANode} {fr dM : Int} (hno : ∀ c ∈ cs, jB c l fr dM = false) : bG cs l fr dM = none := by
  unfold bG; rw [List.find?_eq_none.2 (fun c hc => by simp [hno c hc])]; rfl
theorem jr {P : List (ANode × ANode)} {x y : ANode} {l : List ANode} {k : Nat} (hy : l[k]? = some y) : P ++ (l.take (k + 1)).map (fun y => (x, y)) = (P ++ (l.take k).map (fun y => (x, y))) ++ [(x, y)] := by rw [dK hy]; simp
theorem Fp {cs : List AChunk} {b : Option (ANode × ANode)} (h : 0 < (gZ cs b).length) : (gZ cs b).length = 4 := by
  cases b with
  | none => exact absurd h (show ¬ 0 < 0 by omega)
  | some p => rfl
theorem Ik (cs : List AChunk) (b : Option (ANode × ANode)) : decide ((0 : Int) < ((gZ cs b).length : Int)) = b.isSome := by cases b <;> rfl
theorem Nk {l : List ANode} {ah : List Int} {n : ANode} (h : n ∈ aU l ah) : 1 ≤ n.ID ∧ n.ID ≤ 16 := by
  have h1 := WK l ah n h
  have h2 := (wL _ _ h1.1 n h1.2.1).2
  simp only [sD, Bool.and_eq_true, decide_eq_true_eq] at h2
  exact ⟨h2.1.1.1.1, h2.1.1.1.2⟩
theorem Pg {c : AChunk} {l : List ANode} {fr dM : Int} (h1 : c.av.contains fr = true) (h2 : (!c.av.contains dM) = true) : jB c l fr dM = decide (nV l c.av ≤ nV l (tN c.av fr dM)) := by
  unfold jB; rw [h1, h2]; rfl
theorem JO {c : AChunk} {l : List ANode} {fr dM : Int} (h1 : c.av.contains fr = false) : false = jB c l fr dM := by unfold jB; rw [h1]; rfl
theorem JQ {c : AChunk} {l : List ANode} {fr dM : Int} (h2 : (!c.av.contains dM) = false) : false = jB c l fr dM := by unfold jB; rw [h2, Bool.and_false]; rfl
theorem BI {l : List Int} {x : Int} (h : (!l.contains x) = true) : x ∉ l := fun hm => by rw [List.contains_iff_mem.2 hm] at h; cases h
end Go.Proofs.YtjcklpooaaaglaaGreat
set_option maxRecDepth 4000
set_option linter.all false
namespace Go.Proofs.YtjcklpooaaaglaaGreat
open Go.RowKit
theorem Fq : aM Tryz.prog 101 := fun _ _ => by kernel_rfl
theorem JR (a0 : Int) (a1 : Int) (a2 : Int) (a3 : Int) : ∀ w, (Instr.buildSlice 22 1 (List.toArray [(0, .agg #[.int .i64 a0, .int .i64 a1, .int .i64 a2, .int .i64 a3])])).run Tryz.prog w = .ok (.slice (some ⟨w.heap.size, 0, none⟩) 1 1) (w.alloc (.cells (List.toArray [.int .i64 a0, .int .i64 a1, .int .i64 a2, .int .i64 a3]) 63)) := fun _ => by kernel_rfl
theorem yX : aM Tryz.prog 149 := fun _ _ => by kernel_rfl
theorem Nl {S0 : Nat → Prop} (w : World) {eB : an3} {eD : Nat} {au : List AChunk} (eF : Sl tChunk S0 w eB eD au) {eY : an3} {eZ : Nat} {ak : List ANode} (dU : Sl tNode S0 w eY eZ ak) (hn : ak.length ≤ 100000) :
    bY Tryz.prog 155 #[.slice eB au.length eD, .slice eY ak.length eZ] w fun v w' => ∃ (A0 : an3) (c0 : Nat), v = .slice A0 ((iU au ak).length) c0 ∧ Hp w S0 w' [aQ fO 173 A0 c0 (iU au ak)] := by
 refine WP.enter Tryz.func155 Y Tryz.ntmps155 Y ?_
 have H0 := Hp.init w S0
 have oL := eF.aN
 have mU := dU.aN
 have hf := xI ak
 refine rg <| aR Y <| dn <| rg <| mv Y <| WL.call Y Y Y JL (vB _ (H0.a dU)) Y ?_
 rintro _ w1 ⟨mQ, mR, rfl, h1⟩
 have K1 := H0.c1 h1
 have Eu := (K1.s s0).aN
 refine aR Y <| dn <| rg <| aR Y <| dn <| WP.seq <| rg <| aR Y <| dn <| WP.block ?_
 have H1 := K1.nil fO 173
 have hq1 : (([] : List bP) : List bP) = (((dD ak).take 0).map fun (n : ANode) => (⟨n.ID, (bQ au n.ID : Int)⟩ : bP)) := by rfl
 refine WP.re (t := 6) Y (congrArg (fun z => Value.slice none (List.length z) 0) hq1) ?_
 have H2 := H1.nil fO 173
 have H3 := (hq1 ▸ H2 : Hp w S0 w1 (aQ fO 173 none 0 (((dD ak).take 0).map fun (n : ANode) => (⟨n.ID, (bQ au n.ID : Int)⟩ : bP)) :: [aQ fO 173 none 0 [], fM tNode mQ mR (dD ak)]))
 refine WP.lp (fun mJ lJ wJ => ∃ (k : Nat) (A6 : an3) (c6 : Nat), lJ = [(0, .slice eB au.length eD), (5, .slice mQ ((dD ak).length) mR), (6, .slice A6 ((((dD ak).take k).map fun (n : ANode) => (⟨n.ID, (bQ au n.ID : Int)⟩ : bP)).length) c6), (7, .int .i64 ((k : Nat) : Int))] ∧ mJ = (dD ak).length - k ∧ k ≤ (dD ak).length ∧ Hp w S0 wJ [aQ fO 173 A6 c6 (((dD ak).take k).map fun (n : ANode) => (⟨n.ID, (bQ au n.ID : Int)⟩ : bP)), fM tNode mQ mR (dD ak)]) ⟨0, none, 0, Y, Y, Nat.zero_le _, (H3.rm s1)⟩ Y ?_
 rintro _ _ w2 ⟨k, A6, c6, rfl, rfl, hk, K2⟩
 refine WP.seq <| rg <| mv Y <| mv Y <| ev (Ev.len Tryz.underlying22 Y) <| ev (Ev.lss Y Y) <| dn ?_
 refine WP.aG Y (fun kr => ?_) (fun kr => ?_)
 ·
  replace kr := of_decide_eq_true kr
  refine WP.skip (aA.norm ?_)
  refine WP.seq <| WP.block ?_
  obtain ⟨x1, hx1⟩ := get_some (xs := dD ak) (i := k) (by omega)
  refine Hf K2 (fun _ K => (K.rm s0)) (fun l0 rk lJ wJ => ∃ (jw : an3) (jy : Nat), lJ = (6, .slice jw (((((dD ak).take k).map fun (n : ANode) => (⟨n.ID, (bQ au n.ID : Int)⟩ : bP)) ++ ([(⟨x1.ID, ((bQ au x1.ID : Nat) : Int)⟩ : bP)] : List bP)).length) jy) :: l0 ∧ Hp w S0 wJ (aQ fO 173 jw jy ((((dD ak).take k).map fun (n : ANode) => (⟨n.ID, (bQ au n.ID : Int)⟩ : bP)) ++ ([(⟨x1.ID, ((bQ au x1.ID : Nat) : Int)⟩ : bP)] : List bP)) :: rk)) (fun hns H4 => ?_) ?_
  ·
   have k1 := (H4.rm s0)
   refine Tm 0 1 hns Y Y k1 <| Tm 1 3 hns Y Y k1 <| Tm 2 7 hns Y Y k1 <| Tn 3 15 hns Y (fun _ hK => Ev.index (i := k) Tryz.underlying22 eO Y Y Y (aC hx1) ((hK.s s0).some_ hx1)) k1 ?_
   refine Tn 4 31 hns Y (fun _ _ => Ev.field dV Y (bJ _ _ _)) k1 <| Tn 5 63 hns Y (fun _ hK => Ev.aZ bf Y ((hK.s s0).aX (j := 0) hx1 Y)) k1 ?_
   refine Tm 6 127 hns Y Y k1 <| Tm 7 255 hns Y Y k1 <| Tm 8 511 hns Y Y k1 <| Tn 9 1023 hns Y (fun _ hK => Ev.index (i := k) Tryz.underlying22 eO Y Y Y (aC hx1) ((hK.s s0).some_ hx1)) k1 ?_
   refine Tn 10 2047 hns Y (fun _ _ => Ev.field dV Y (bJ _ _ _)) k1 <| Tn 11 4095 hns Y (fun _ hK => Ev.aZ bf Y ((hK.s s0).aX (j := 0) hx1 Y)) k1 ?_
   refine O1 12 Y ?_
   refine C0 H4 Y Y Y Fq (qR _ (H4.a eF).any x1.ID) fun w3 K3 => ?_
   have k2 := (K3.rm s0)
   refine WH.next k2 <| Tn 13 16383 hns Y (fun _ _ => Ev.build (vs := [(0, .int .i64 x1.ID), (1, .int .i64 ((bQ au x1.ID : Nat) : Int))]) (cs := [.int .i64 x1.ID, .int .i64 ((bQ au x1.ID : Nat) : Int)]) Y (by apply p9)) k2 ?_
   refine O1 14 Y ?_
   refine ni (τ := fO) (x := (⟨x1.ID, ((bQ au x1.ID : Nat) : Int)⟩ : bP)) Y (by intro _; apply rC) rfl K3 (fun _ _ => rfl) fun g1 w4 K4 => ?_
   have k3 := ((K4.rm s1).rm s0)
   refine WH.next k3 <| O1 15 Y ?_
   refine ap (ys := ([(⟨x1.ID, ((bQ au x1.ID : Nat) : Int)⟩ : bP)] : List bP)) K4 s1 Y Y (K4.o s0) Tryz.underlying130 I5 (by first | omega | (simp; omega) | (simp; done)) (by simp) rfl fun jg jh w5 K5 => ?_
   have k4 := ((K5.rm s1).rm s0)
   refine WH.next k4 <| Ta 16 131071 hns Y Y k4 ?_
   exact Dn ⟨jg, jh, Y, (K5.rm s1)⟩ Y
  rintro _ w6 ⟨jw, jy, rfl, K6⟩
  refine aA.aS (aA.norm ?_)
  refine eP <| mv Y <| ev (Ev.add Y Y (eX.mk (by omega) (by omega))) <| aR Y <| eT ?_
  have hq2 : (((((dD ak).take k).map fun (n : ANode) => (⟨n.ID, (bQ au n.ID : Int)⟩ : bP)) ++ ([(⟨x1.ID, ((bQ au x1.ID : Nat) : Int)⟩ : bP)] : List bP)) : List bP) = (((dD ak).take (k + 1)).map fun (n : ANode) => (⟨n.ID, (bQ au n.ID : Int)⟩ : bP)) := by rw [dK hx1, List.map_append]; rfl
  refine aA.re (t := 6) Y (congrArg (fun z => Value.slice jw (List.length z) jy) hq2) ?_
  rw [hq2] at K6
  exact aA.ag ⟨(k + 1), jw, jy, Y, Y, by omega, K6⟩ rfl (by omega)
 replace kr := of_decide_eq_false kr
 refine WP.exit (aA.aF (aA.aF (aA.bS (aA.norm ?_))))
 refine rg <| mv Y <| aR Y <| dn ?_
 refine WP.ret (aA.aD Y Y Y ?_)
 have hq3 : ((((dD ak).take k).map fun (n : ANode) => (⟨n.ID, (bQ au n.ID : Int)⟩ : bP)) : List bP) = (iU au ak) := by rw [List.take_of_length_le (by omega)]; exact Ni au ak
 rw [hq3] at K2
 exact ⟨A6, c6, by rw [hq3] <;> rfl, (K2.rm s1)⟩
theorem Il {S0 : Nat → Prop} (w : World) {eY : an3} {eZ : Nat} {ak : List ANode} (dU : Sl tNode S0 w eY eZ ak) {cZ : an3} {dh : Nat} {ah : List Int} (cu : Sl tInt S0 w cZ dh ah) (hn : ak.length ≤ 100000) :
    bY Tryz.prog 100 #[.slice eY ak.length eZ, .slice cZ ah.length dh] w fun v w' => ∃ (A0 : an3) (c0 : Nat), v = .slice A0 ((aU ak ah).length) c0 ∧ Hp w S0 w' [aQ tNode 63 A0 c0 (aU ak ah)] := by
 refine WP.enter Tryz.func100 Y Tryz.ntmps100 Y ?_
 have H0 := Hp.init w S0
 have mU := dU.aN
 have iy := cu.aN
 have hf := xI ak
 have hq := fun k => List.length_filter_le (fun (n : ANode) => !uI ah n) ((dD ak).take k)
 simp only [List.length_take] at hq
 refine rg <| aR Y <| dn <| rg <| mv Y <| WL.call Y Y Y JL (vB _ (H0.a dU)) Y ?_
 rintro _ w1 ⟨mQ, mR, rfl, h1⟩
 have K1 := H0.c1 h1
 have Eu := (K1.s s0).aN
 refine aR Y <| dn <| rg <| aR Y <| dn <| WP.seq <| rg <| aR Y <| dn <| WP.block ?_
 have H1 := K1.nil tNode 63
 have hq1 : (([] : List ANode) : List ANode) = (((dD ak).take 0).filter fun (n : ANode) => !uI ah n) := by rfl
 refine WP.re (t := 6) Y (congrArg (fun z => Value.slice none (List.length z) 0) hq1) ?_
 have H2 := H1.nil tNode 63
 have H3 := (hq1 ▸ H2 : Hp w S0 w1 (aQ tNode 63 none 0 (((dD ak).take 0).filter fun (n : ANode) => !uI ah n) :: [aQ tNode 63 none 0 [], fM tNode mQ mR (dD ak)]))
 refine Lp ((H3.rm s1).rm s0) (fun l0 rk mJ lJ wJ => ∃ (k : Nat) (A6 : an3) (c6 : Nat), lJ = (6, .slice A6 ((((dD ak).take k).filter fun (n : ANode) => !uI ah n).length) c6) :: (7, .int .i64 ((k : Nat) : Int)) :: l0 ∧ mJ = (dD ak).length - k ∧ k ≤ (dD ak).length ∧ Hp w S0 wJ (aQ tNode 63 A6 c6 (((dD ak).take k).filter fun (n : ANode) => !uI ah n) :: rk)) ⟨0, none, 0, Y, Y, Nat.zero_le _, (H3.rm s1)⟩ Y ?_
 rintro _ _ w2 ⟨k, A6, c6, rfl, rfl, hk, K2⟩
 refine WP.seq <| rg <| mv Y <| mv Y <| ev (Ev.len Tryz.underlying22 Y) <| ev (Ev.lss Y Y) <| dn ?_
 refine WP.aG Y (fun fE => ?_) (fun fE => ?_)
 ·
  replace fE := of_decide_eq_true fE
  refine WP.skip (aA.norm ?_)
  refine WP.seq <| WP.block <| rg <| mv Y <| mv Y <| mv Y ?_
  obtain ⟨x1, hx1⟩ := get_some (xs := dD ak) (i := k) (by omega)
  refine ev (Ev.index (i := k) Tryz.underlying22 eO Y Y Y (aC hx1) ((K2.s s1).some_ hx1)) <| ev (Ev.field dV Y (bJ _ _ _)) <| ev (Ev.aZ bf Y ((K2.s s1).aX (j := 0) hx1 Y)) ?_
  refine C0 K2 Y Y Y Cm (nQ _ (K2.a cu).any x1.ID) fun w3 K3 => ?_
  refine aR Y <| dn <| rg <| mv Y <| mv Y ?_
  refine WL.dR 7 32 ((ah.contains x1.ID) && (decide (x1.dz = 0))) ?_ ?_
  ·
   cases aeJ : ah.contains x1.ID with
   | true =>
    refine WL.bF Y (Ev.move Y) Y <| WL.bF Y (Ev.move Y) Y <| WL.bF Y (Ev.index (i := k) Tryz.underlying22 eO Y Y Y (aC hx1) ((K3.s s1).some_ hx1)) Y ?_
    refine WL.bF Y (Ev.field nU Y (bJ _ _ _)) Y <| WL.bF Y (Ev.aZ bf Y ((K3.s s1).aX (j := 3) hx1 Y)) Y <| WL.bF Y (Ev.eql Y Y) Y ?_
    refine ev (Ev.bq Y Y) ?_
    exact WL.bM Y
   | false =>
    refine WL.pass Y Y Y <| WL.pass Y Y Y <| WL.pass Y Y Y <| WL.pass Y Y Y <| WL.pass Y Y Y <| WL.pass Y Y Y <| ev (Ev.bn Y Y) ?_
    exact WL.bM Y
  refine dn ?_
  refine WP.aG Y (fun hc32 => ?_) (fun hc32 => ?_)
  ·
   refine eP <| mv Y <| mv Y <| mv Y <| ev (Ev.index (i := k) Tryz.underlying22 eO Y Y Y (aC hx1) ((K3.s s1).some_ hx1)) <| ev (Ev.loadRow kU Y Y ((K3.s s1).dx hx1)) ?_
   refine ni (τ := tNode) (x := x1) Y (by intro _; apply JR) rfl K3 (fun _ _ => rfl) fun g1 w4 K4 => ?_
   refine ap (ys := ([x1] : List ANode)) K4 s1 Y Y (K4.o s0) Tryz.underlying22 ZF (by have := hq k; omega) (by simp) rfl fun jg jh w5 K5 => ?_
   refine aR Y <| eT ?_
   refine aA.aS (aA.norm ?_)
   refine eP <| mv Y <| ev (Ev.add Y Y (eX.mk (by omega) (by omega))) <| aR Y <| eT ?_
   have hq2 : (((((dD ak).take k).filter fun (n : ANode) => !uI ah n) ++ ([x1] : List ANode)) : List ANode) = (((dD ak).take (k + 1)).filter fun (n : ANode) => !uI ah n) := by rw [fQ hx1, Nh, hc32]; simp
   refine aA.re (t := 6) Y (congrArg (fun z => Value.slice jg (List.length z) jh) hq2) ?_
   rw [hq2] at K5
   exact aA.ag ⟨(k + 1), jg, jh, Y, Y, by omega, (K5.rm s1)⟩ rfl (by omega)
  refine WP.skip (aA.aS (aA.norm ?_))
  refine eP <| mv Y <| ev (Ev.add Y Y (eX.mk (by omega) (by omega))) <| aR Y <| eT ?_
  have hq3 : ((((dD ak).take k).filter fun (n : ANode) => !uI ah n) : List ANode) = (((dD ak).take (k + 1)).filter fun (n : ANode) => !uI ah n) := by rw [fQ hx1, Nh, hc32]; simp
  refine aA.re (t := 6) Y (congrArg (fun z => Value.slice A6 (List.length z) c6) hq3) ?_
  rw [hq3] at K3
  exact aA.ag ⟨(k + 1), A6, c6, Y, Y, by omega, K3⟩ rfl (by omega)
 replace fE := of_decide_eq_false fE
 refine WP.exit (aA.aF (aA.aF (aA.bS (aA.norm ?_))))
 refine rg <| mv Y <| aR Y <| dn ?_
 refine WP.ret (aA.aD Y Y Y ?_)
 have hq4 : ((((dD ak).take k).filter fun (n : ANode) => !uI ah n) : List ANode) = (aU ak ah) := by rw [List.take_of_length_le (by omega)]; exact Tt ak ah
 rw [hq4] at K2
 exact ⟨A6, c6, by rw [hq4] <;> rfl, (K2.rm s1)⟩
theorem Gj {S0 : Nat → Prop} (w : World) {A_h : an3} {c_h : Nat} {h : List Int} (h_h : Sl tInt S0 w A_h c_h h) (fr : Int) (dM : Int) :
    bY Tryz.prog 161 #[.slice A_h h.length c_h, .int .i64 fr, .int .i64 dM] w fun v w' => ∃ (A0 : an3) (c0 : Nat), v = .slice A0 ((iD (swB h fr dM) 16).length) c0 ∧ Hp w S0 w' [aQ tInt 3 A0 c0 (iD (swB h fr dM) 16)] := by
 refine WP.enter Tryz.func161 Y Tryz.ntmps161 Y ?_
 have H0 := Hp.init w S0
 have aip := h_h.aN
 have hpl := fun n => AU (swB h fr dM) n
 refine rg <| aR Y <| dn <| rg <| aR Y <| dn <| WP.seq <| rg <| aR Y <| dn <| WP.block ?_
 have H1 := H0.nil tInt 3
 have hq1 : (([] : List Int) : List Int) = (iD (swB h fr dM) 0) := by rfl
 refine WP.re (t := 7) Y (congrArg (fun z => Value.slice none (List.length z) 0) hq1) ?_
 have hq2 : (1 : Int) = ((0 + 1 : Nat) : Int) := by simp
 refine WP.re (t := 8) Y (congrArg (Value.int .i64) hq2) ?_
 have H2 := H1.nil tInt 3
 have H3 := (hq1 ▸ H2 : Hp w S0 w (aQ tInt 3 none 0 (iD (swB h fr dM) 0) :: [aQ tInt 3 none 0 []]))
 refine Lp ((H3.rm s1).rm s0) (fun l0 rk mJ lJ wJ => ∃ (n : Nat) (A7 : an3) (c7 : Nat), lJ = (7, .slice A7 ((iD (swB h fr dM) n).length) c7) :: (8, .int .i64 ((n + 1 : Nat) : Int)) :: l0 ∧ mJ = 16 - n ∧ (n ≤ 16) ∧ Hp w S0 wJ (aQ tInt 3 A7 c7 (iD (swB h fr dM) n) :: rk)) ⟨0, none, 0, Y, Y, by omega, (H3.rm s1)⟩ rfl ?_
 rintro _ _ w1 ⟨n, A7, c7, rfl, rfl, hn16, K1⟩
 refine WP.seq <| rg <| mv Y <| ev (Ev.leq Y Y) <| dn ?_
 refine WP.aG Y (fun fK => ?_) (fun fK => ?_)
 ·
  replace fK := of_decide_eq_true fK
  refine WP.skip (aA.norm ?_)
  refine WP.seq <| WP.block <| rg <| mv Y <| mv Y ?_
  refine C0 K1 Y Y Y Cm (nQ _ (K1.a h_h).any ((n + 1 : Nat) : Int)) fun w2 K2 => ?_
  refine aR Y <| dn <| rg <| mv Y <| mv Y ?_
  refine WL.dR 4 22 ((h.contains ((n + 1 : Nat) : Int)) && (!decide (((n + 1 : Nat) : Int) = fr))) ?_ ?_
  ·
   cases UD : h.contains ((n + 1 : Nat) : Int) with
   | true =>
    refine WL.bF Y (Ev.move Y) Y <| WL.bF Y (Ev.move Y) Y <| WL.bF Y (Ev.neq Y Y) Y <| ev (Ev.bq Y Y) ?_
    exact WL.bM Y
   | false =>
    refine WL.pass Y Y Y <| WL.pass Y Y Y <| WL.pass Y Y Y <| ev (Ev.bn Y Y) ?_
    exact WL.bM Y
  refine mv Y ?_
  refine WL.dR 4 27 (((h.contains ((n + 1 : Nat) : Int)) && (!decide (((n + 1 : Nat) : Int) = fr))) || (decide (((n + 1 : Nat) : Int) = dM))) ?_ ?_
  ·
   cases ab0 : ((h.contains ((n + 1 : Nat) : Int)) && (!decide (((n + 1 : Nat) : Int) = fr))) with
   | true =>
    refine WL.pass Y Y Y <| WL.pass Y Y Y <| WL.pass Y Y Y <| ev (Ev.bq Y Y) ?_
    exact WL.bM Y
   | false =>
    have Vo := ab0
    try simp only [an4, an5, an6, an7, an8, an9, aoa, aob] at Vo
    refine WL.bF Y (Ev.move Y) Y <| WL.bF Y (Ev.move Y) Y <| WL.bF Y (Ev.eql Y Y) Y <| ev (Ev.bn Y Y) ?_
    exact WL.bM Y
  refine dn ?_
  refine WP.aG Y (fun hc27 => ?_) (fun hc27 => ?_)
  ·
   refine eP <| mv Y <| mv Y ?_
   refine ni (τ := tInt) (x := ((n + 1 : Nat) : Int)) Y (by intro _; apply jk) rfl K2 (fun _ _ => rfl) fun g1 w3 K3 => ?_
   refine ap (ys := ([((n + 1 : Nat) : Int)] : List Int)) K3 s1 Y Y (K3.o s0) Tryz.underlying51 uF (by have := hpl n; omega) (by simp) rfl fun jg jh w4 K4 => ?_
   refine aR Y <| eT ?_
   refine aA.aS (aA.norm ?_)
   refine eP <| mv Y <| ev (Ev.add Y Y (eX.mk (by omega) (by omega))) <| aR Y <| eT ?_
   have hq3 : (((iD (swB h fr dM) n) ++ ([((n + 1 : Nat) : Int)] : List Int)) : List Int) = (iD (swB h fr dM) (n + 1)) := by first | (have hb : swB h fr dM ((n + 1 : Nat) : Int) = true := hc27; simp only [iD]; rw [if_pos hb]; done) | (have hb : swB h fr dM ((n + 1 : Nat) : Int) = false := hc27; simp only [iD]; rw [if_neg (by rw [hb]; decide)]; simp)
   refine aA.re (t := 7) Y (congrArg (fun z => Value.slice jg (List.length z) jh) hq3) ?_
   have hq4 : (((n + 1 + 1 : Nat) : Int) : Int) = (((n + 1) + 1 : Nat) : Int) := by simp
   refine aA.re (t := 8) Y (congrArg (Value.int .i64) hq4) ?_
   rw [hq3] at K4
   exact aA.ag ⟨(n + 1), jg, jh, Y, Y, by omega, (K4.rm s1)⟩ rfl (by omega)
  refine WP.skip (aA.aS (aA.norm ?_))
  refine eP <| mv Y <| ev (Ev.add Y Y (eX.mk (by omega) (by omega))) <| aR Y <| eT ?_
  have kP : ((iD (swB h fr dM) n) : List Int) = (iD (swB h fr dM) (n + 1)) := by first | (have hb : swB h fr dM ((n + 1 : Nat) : Int) = true := hc27; simp only [iD]; rw [if_pos hb]; done) | (have hb : swB h fr dM ((n + 1 : Nat) : Int) = false := hc27; simp only [iD]; rw [if_neg (by rw [hb]; decide)]; simp)
  refine aA.re (t := 7) Y (congrArg (fun z => Value.slice A7 (List.length z) c7) kP) ?_
  have ny : (((n + 1 + 1 : Nat) : Int) : Int) = (((n + 1) + 1 : Nat) : Int) := by simp
  refine aA.re (t := 8) Y (congrArg (Value.int .i64) ny) ?_
  rw [kP] at K2
  exact aA.ag ⟨(n + 1), A7, c7, Y, Y, by omega, K2⟩ rfl (by omega)
 replace fK := of_decide_eq_false fK
 refine WP.exit (aA.aF (aA.aF (aA.bS (aA.norm ?_))))
 refine rg <| mv Y <| aR Y <| dn ?_
 refine WP.ret (aA.aD Y Y Y ?_)
 have af9 : n = 16 := by omega
 have kT : ((iD (swB h fr dM) n) : List Int) = (iD (swB h fr dM) 16) := by rw [af9]
 rw [kT] at K1
 exact ⟨A7, c7, by rw [kT] <;> rfl, K1⟩
theorem CB {S0 : Nat → Prop} (w : World) {d9 : an3} {eu : Nat} {l : List ANode} (dN : Sl tNode S0 w d9 eu l) {BN : an3} {BO : Nat} {ids : List Int} (wN : Sl tInt S0 w BN BO ids) :
    bY Tryz.prog 160 #[.slice d9 l.length eu, .slice BN ids.length BO] w fun v w' => v = .int .i64 ((nV l ids : Nat) : Int) ∧ Hp w S0 w' [] := by
 refine WP.enter Tryz.func160 Y Tryz.ntmps160 Y ?_
 have H0 := Hp.init w S0
 have iJ := dN.aN
 have U4 := wN.aN
 have hpl := fun n => AU (TV l ids) n
 refine rg <| aR Y <| dn <| rg <| aR Y <| dn <| WP.seq <| rg <| aR Y <| dn <| WP.block ?_
 have hq1 : (0 : Int) = (((iD (TV l ids) 0).length : Nat) : Int) := by rfl
 refine WP.re (t := 5) Y (congrArg (Value.int .i64) hq1) ?_
 have hq2 : (1 : Int) = ((0 + 1 : Nat) : Int) := by simp
 refine WP.re (t := 6) Y (congrArg (Value.int .i64) hq2) <| Lp H0 (fun l0 rk mJ lJ wJ => ∃ (n : Nat), lJ = (5, .int .i64 (((iD (TV l ids) n).length : Nat) : Int)) :: (6, .int .i64 ((n + 1 : Nat) : Int)) :: l0 ∧ mJ = 8 - n ∧ (n ≤ 8) ∧ Hp w S0 wJ rk) ⟨0, Y, Y, by omega, H0⟩ rfl ?_
 rintro _ _ w1 ⟨n, rfl, rfl, hn8, K1⟩
 refine WP.seq <| rg <| mv Y <| ev (Ev.leq Y Y) <| dn ?_
 refine WP.aG Y (fun fK => ?_) (fun fK => ?_)
 ·
  replace fK := of_decide_eq_true fK
  refine WP.skip (aA.norm ?_)
  refine WP.seq <| WP.block ?_
  have hpn := hpl n
  refine rg <| aR Y <| dn <| WP.block <| Lp K1 (fun l0 rk mJ lJ wJ => ∃ (k : Nat), lJ = (5, .int .i64 (((iD (TV l ids) n).length : Nat) : Int)) :: (7, .int .i64 ((k : Nat) : Int)) :: l0 ∧ mJ = ids.length - k ∧ k ≤ ids.length ∧ (∀ y ∈ ids.take k, ¬ (bZ l y = true ∧ (bL l y).dA = ((n + 1 : Nat) : Int))) ∧ Hp w S0 wJ rk) ⟨0, Y, Y, Nat.zero_le _, by simp, K1⟩ rfl ?_
  rintro _ _ w2 ⟨k, rfl, rfl, hk, hno, K2⟩
  refine WP.seq <| rg <| mv Y <| mv Y <| ev (Ev.len Tryz.underlying51 Y) <| ev (Ev.lss Y Y) <| dn ?_
  refine WP.aG Y (fun hc17 => ?_) (fun hc17 => ?_)
  ·
   replace hc17 := of_decide_eq_true hc17
   refine WP.skip (aA.norm ?_)
   refine WP.seq <| WP.block <| rg <| mv Y <| mv Y <| mv Y ?_
   obtain ⟨x1, hx1⟩ := get_some (xs := ids) (i := k) (by omega)
   refine ev (Ev.index (i := k) Tryz.underlying51 iC Y Y Y (aC hx1) ((K2.a wN).some_ hx1)) <| ev (Ev.aZ bf Y ((K2.a wN).aX (j := 0) hx1 Y)) ?_
   refine C0 K2 Y Y Y yX (nJ _ (K2.a dN).any x1) fun w3 K3 => ?_
   refine mv Y <| xt Y Y <| xt Y Y ?_
   refine al iM Y K3 fun g1 w4 K4 => ?_
   refine iW Y Y Y eO K4 s0 Y Y fun w5 K5 => ?_
   refine aR Y <| dn <| rg <| mv Y <| mv Y ?_
   refine WL.dR 5 35 ((bZ l x1) && (decide ((bL l x1).dA = ((n + 1 : Nat) : Int)))) ?_ ?_
   ·
    cases aeL : bZ l x1 with
    | true =>
     refine WL.bF Y (Ev.field (q := ⟨g1, 1, none⟩) l7 Y Y) Y <| WL.bF Y (Ev.aj bf Y (K5.x s0) Y) Y <| WL.bF Y (Ev.move Y) Y ?_
     refine WL.bF Y (Ev.eql Y Y) Y <| ev (Ev.bq Y Y) ?_
     exact WL.bM Y
    | false =>
     refine WL.pass Y Y Y <| WL.pass Y Y Y <| WL.pass Y Y Y <| WL.pass Y Y Y <| ev (Ev.bn Y Y) ?_
     exact WL.bM Y
   refine dn ?_
   refine WP.aG Y (fun kX => ?_) (fun kX => ?_)
   ·
    refine rg <| mv Y <| ev (Ev.add Y Y (eX.mk (by omega) (by omega))) <| aR Y <| dn ?_
    refine WP.exit (aA.sj Y (aA.aF (aA.aF (aA.bS (aA.aS (aA.norm ?_))))))
    refine eP <| mv Y <| ev (Ev.add Y Y (eX.mk (by omega) (by omega))) <| aR Y <| eT ?_
    have hq3 : ((((iD (TV l ids) n).length + 1 : Nat) : Int) : Int) = (((iD (TV l ids) (n + 1)).length : Nat) : Int) := by first | (obtain ⟨hb1, hb2⟩ := (Bool.and_eq_true _ _).mp kX; rw [bq (Xm (bV hx1) hb1 (of_decide_eq_true hb2))]) | (rw [bn (aaz (by rw [List.take_of_length_le (by omega)] at hno; exact hno))])
    refine aA.re (t := 5) Y (congrArg (Value.int .i64) hq3) ?_
    have hq4 : (((n + 1 + 1 : Nat) : Int) : Int) = (((n + 1) + 1 : Nat) : Int) := by simp
    refine aA.re (t := 6) Y (congrArg (Value.int .i64) hq4) ?_
    exact aA.ag ⟨(n + 1), Y, Y, by omega, (K5.rm s0)⟩ rfl (by omega)
   refine WP.skip (aA.aS (aA.norm ?_))
   refine eP <| mv Y <| ev (Ev.add Y Y (eX.mk (by omega) (by omega))) <| aR Y <| eT ?_
   exact aA.ag ⟨(k + 1), Y, Y, by omega, by exact gP (q := fun y => ¬ (bZ l y = true ∧ (bL l y).dA = ((n + 1 : Nat) : Int))) hno hx1 (by rintro ⟨h1, h2⟩; rw [h1, decide_eq_true h2] at kX; cases kX), (K5.rm s0)⟩ rfl (by omega)
  replace hc17 := of_decide_eq_false hc17
  refine WP.exit (aA.aF (aA.aF (aA.bS (aA.aS (aA.norm ?_)))))
  refine eP <| mv Y <| ev (Ev.add Y Y (eX.mk (by omega) (by omega))) <| aR Y <| eT ?_
  have kP : ((((iD (TV l ids) n).length : Nat) : Int) : Int) = (((iD (TV l ids) (n + 1)).length : Nat) : Int) := by first | (obtain ⟨hb1, hb2⟩ := (Bool.and_eq_true _ _).mp kX; rw [bq (Xm (bV hx1) hb1 (of_decide_eq_true hb2))]) | (rw [bn (aaz (by rw [List.take_of_length_le (by omega)] at hno; exact hno))])
  refine aA.re (t := 5) Y (congrArg (Value.int .i64) kP) ?_
  have ny : (((n + 1 + 1 : Nat) : Int) : Int) = (((n + 1) + 1 : Nat) : Int) := by simp
  refine aA.re (t := 6) Y (congrArg (Value.int .i64) ny) ?_
  exact aA.ag ⟨(n + 1), Y, Y, by omega, K2⟩ rfl (by omega)
 replace fK := of_decide_eq_false fK
 refine WP.exit (aA.aF (aA.aF (aA.bS (aA.norm ?_))))
 refine rg <| mv Y <| aR Y <| dn ?_
 refine WP.ret (aA.aD Y Y Y ?_)
 have ajr : n = 8 := by omega
 have kT : ((iD (TV l ids) n).length : Nat) = (nV l ids) := by rw [ajr]; rw [Nj]
 exact ⟨by rw [kT] <;> rfl, K1⟩
end Go.Proofs.YtjcklpooaaaglaaGreat
