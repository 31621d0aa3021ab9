/- Contracts of functions: what each call hands back, and that it leaves all that was there as it was. -/
import Derived.Test.YtldldcafklophaaGreatMet3
set_option maxRecDepth 4000
set_option linter.all false
namespace Go.Proofs.YtldldcafklophaaGreat
open Go.RowKit

theorem low_keyG {α : Type} {key : α → Int} {l : List α} (hu : Up key l) {id : Int} {k : Nat} {x : α} (hx : l[k]? = some x) : key x < id ↔ k < low (fun (y : α) => cmpI (key y) id) l := by
  have hm := hu.mono id
  constructor
  · intro h
    rcases Nat.lt_or_ge k (low (fun (y : α) => cmpI (key y) id) l) with h1 | h1
    · exact h1
    · exfalso
      have h2 : low (fun (y : α) => cmpI (key y) id) l ≥ k + 1 := by
        have e : l = l.take (k + 1) ++ l.drop (k + 1) := (List.take_append_drop _ _).symm
        have h3 : (l.take (k + 1)).countP (fun (y : α) => decide (cmpI (key y) id < 0)) = (l.take (k + 1)).length := by
          rw [List.countP_eq_length]
          intro y hy
          obtain ⟨a, ha⟩ := List.getElem?_of_mem hy
          have ha1 := lt_of_get ha
          simp only [List.length_take] at ha1
          rw [List.getElem?_take_of_lt (by omega)] at ha
          simp only [decide_eq_true_eq]
          exact hm a k y x (by omega) ha hx (cmpI_neg.2 h)
        unfold low
        rw [e, List.countP_append, h3, List.length_take]
        have := lt_of_get hx
        omega
      omega
  · intro h
    rcases (by omega : key x < id ∨ id ≤ key x) with h1 | h1
    · exact h1
    · exfalso
      have h2 : low (fun (y : α) => cmpI (key y) id) l ≤ k := by
        have e : l = l.take k ++ l.drop k := (List.take_append_drop _ _).symm
        have h3 : (l.drop k).countP (fun (y : α) => decide (cmpI (key y) id < 0)) = 0 := by
          rw [List.countP_eq_zero]
          intro y hy
          obtain ⟨a, ha⟩ := List.getElem?_of_mem hy
          rw [List.getElem?_drop] at ha
          simp only [decide_eq_true_eq]
          intro hlt
          have := cmpI_neg.1 (hm k (k + a) x y (by omega) hx ha hlt)
          omega
        simp only [low]
        rw [e, List.countP_append, h3]
        have := List.countP_le_length (p := fun (y : α) => decide (cmpI (key y) id < 0)) (l := l.take k)
        simp only [List.length_take] at this
        omega
      omega
theorem low_takeG {α : Type} {key : α → Int} {l : List α} (hu : Up key l) {id : Int} {x : α} (h : x ∈ l.take (low (fun (y : α) => cmpI (key y) id) l)) : key x < id := by
  obtain ⟨a, ha⟩ := List.getElem?_of_mem h
  have h1 := lt_of_get ha
  simp only [List.length_take] at h1
  rw [List.getElem?_take_of_lt (by omega)] at ha
  exact (low_keyG hu ha).2 (by omega)
theorem low_dropG {α : Type} {key : α → Int} {l : List α} (hu : Up key l) {id : Int} {x : α} (h : x ∈ l.drop (low (fun (y : α) => cmpI (key y) id) l)) : id ≤ key x := by
  obtain ⟨a, ha⟩ := List.getElem?_of_mem h
  rw [List.getElem?_drop] at ha
  have h1 := (low_keyG (id := id) hu ha)
  rcases Int.lt_or_le (key x) id with h2 | h2
  · have := h1.1 h2; omega
  · exact h2
theorem ins_memG {α : Type} {l : List α} {c x : α} (n : Nat) : x ∈ l.take n ++ [c] ++ l.drop n ↔ x = c ∨ x ∈ l := by
  have h : x ∈ l ↔ x ∈ l.take n ∨ x ∈ l.drop n := by rw [← List.mem_append, List.take_append_drop]
  simp only [List.mem_append, List.mem_singleton, h]
  constructor
  · rintro ((h | h) | h)
    · exact .inr (.inl h)
    · exact .inl h
    · exact .inr (.inr h)
  · rintro (h | h | h)
    · exact .inl (.inr h)
    · exact .inl (.inl h)
    · exact .inr h
theorem ins_upG {α : Type} {key : α → Int} {l : List α} (hu : Up key l) {c : α} (hn : ∀ x ∈ l, key x ≠ key c) : Up key (l.take (low (fun (y : α) => cmpI (key y) (key c)) l) ++ [c] ++ l.drop (low (fun (y : α) => cmpI (key y) (key c)) l)) := by
  have h5 : (l.take (low (fun (y : α) => cmpI (key y) (key c)) l) ++ l.drop (low (fun (y : α) => cmpI (key y) (key c)) l)).Pairwise (fun x y => key x < key y) := by rw [List.take_append_drop]; exact hu
  have h6 := List.pairwise_append.1 h5
  have h2' : ∀ x ∈ l.drop (low (fun (y : α) => cmpI (key y) (key c)) l), key c < key x := fun x hx => by
    have h3 := low_dropG hu hx
    have h4 := hn x (List.mem_of_mem_drop hx)
    omega
  unfold Up
  rw [List.append_assoc]
  refine List.pairwise_append.2 ⟨h6.1, List.pairwise_append.2 ⟨List.pairwise_singleton _ _, h6.2.1, fun x hx y hy => ?_⟩, fun x hx y hy => ?_⟩
  · rw [List.mem_singleton.1 hx]; exact h2' y hy
  · rcases List.mem_append.1 hy with hy | hy
    · rw [List.mem_singleton.1 hy]; exact low_takeG hu hx
    · exact h6.2.2 x hx y hy
theorem set_upG {α : Type} {key : α → Int} {l : List α} (hu : Up key l) {i : Nat} {x y : α} (hx : l[i]? = some x) (hk : key y = key x) : Up key (l.set i y) := by
  have h1 : (l.set i y).map key = l.map key := by
    rw [List.map_set, hk]; exact set_same (by rw [List.getElem?_map, hx]; rfl)
  have h2 : (l.map key).Pairwise (fun a b => a < b) := by rw [List.pairwise_map]; exact hu
  rw [← h1, List.pairwise_map] at h2
  exact h2
def insG {α : Type} (l : List α) (c : α) (n k : Nat) : List α := if n < k then l.take n ++ [c] ++ (l.take k).drop n else l.take k
theorem insG_zero {α : Type} (l : List α) (c : α) (n : Nat) : insG l c n 0 = [] := by simp [insG]
theorem insG_len {α : Type} (l : List α) (c : α) (n k : Nat) : (insG l c n k).length ≤ l.length + 1 := by
  unfold insG; split <;> simp <;> omega
theorem insG_ne {α : Type} {l : List α} {c x : α} {n k : Nat} (hx : l[k]? = some x) (h : k ≠ n) : insG l c n (k + 1) = insG l c n k ++ [x] := by
  have hk := lt_of_get hx
  unfold insG
  by_cases h1 : n < k
  · rw [if_pos (by omega), if_pos h1, take_snoc hx, List.drop_append_of_le_length (by simp; omega)]; simp
  · rw [if_neg (by omega), if_neg h1, take_snoc hx]
theorem insG_eq {α : Type} {l : List α} {c x : α} {n : Nat} (hx : l[n]? = some x) : insG l c n (n + 1) = insG l c n n ++ [c] ++ [x] := by
  unfold insG
  rw [if_pos (by omega), if_neg (by omega), take_snoc hx, List.drop_append_of_le_length (by have := lt_of_get hx; simp; omega), List.drop_of_length_le (by simp; omega)]; simp
theorem insG_end {α : Type} {l : List α} {c : α} {n k : Nat} (h : n < k) (hk : l.length ≤ k) : insG l c n k = l.take n ++ [c] ++ l.drop n := by
  unfold insG; rw [if_pos h, List.take_of_length_le (i := k) hk]
theorem insG_end2 {α : Type} {l : List α} {c : α} {n k : Nat} (h : ¬ n < k) (hk : l.length ≤ k) : insG l c n k ++ [c] = l.take n ++ [c] ++ l.drop n := by
  unfold insG; rw [if_neg h, List.take_of_length_le hk, List.take_of_length_le (by omega), List.drop_of_length_le (by omega)]; simp
/-- what is ahead of k, with one put in at n, or in the place of the one at n -/
def putG {α : Type} (b : Bool) (l : List α) (c : α) (n k : Nat) : List α := if b = true then (l.set n c).take k else insG l c n k
theorem putG_zero {α : Type} (b : Bool) (l : List α) (c : α) (n : Nat) : putG b l c n 0 = [] := by unfold putG; split <;> simp [insG]
theorem putG_len {α : Type} (b : Bool) (l : List α) (c : α) (n k : Nat) : (putG b l c n k).length ≤ l.length + 1 := by
  unfold putG; split
  · simp; omega
  · exact insG_len ..
theorem putG_ne {α : Type} {b : Bool} {l : List α} {c x : α} {n k : Nat} (hx : l[k]? = some x) (h : k ≠ n) : putG b l c n (k + 1) = putG b l c n k ++ [x] := by
  unfold putG; split
  · exact take_snoc (by rw [List.getElem?_set_ne (by omega)]; exact hx)
  · exact insG_ne hx h
theorem putG_eq {α : Type} {b : Bool} {l : List α} {c x : α} {n : Nat} (hb : b = false) (hx : l[n]? = some x) : putG b l c n (n + 1) = putG b l c n n ++ [c] ++ [x] := by
  subst hb; exact insG_eq hx
theorem putG_hit {α : Type} {b : Bool} {l : List α} {c x : α} {n : Nat} (hb : b = true) (hx : l[n]? = some x) : putG b l c n (n + 1) = putG b l c n n ++ [c] := by
  subst hb; exact take_snoc (List.getElem?_set_self (lt_of_get hx))

theorem nRise_of : ∀ (l : List ANode) (z : Int), Up ANode.ID l → (∀ n ∈ l, z < n.ID ∧ nOne n = true) → nRise z l = true
  | [], _, _, _ => rfl
  | m :: l, z, hu, h => by
    have h1 := List.pairwise_cons.1 hu
    have h2 := h m (by simp)
    simp only [nRise, Bool.and_eq_true, Bool.not_eq_true', Bool.or_eq_false_iff, Bool.not_eq_false', decide_eq_false_iff_not]
    exact ⟨⟨h2.2, by omega⟩, nRise_of l _ h1.2 fun n hn => ⟨h1.1 n hn, (h n (by simp [hn])).2⟩⟩
theorem nOne_ge {n : ANode} (h : nOne n = true) : 1 ≤ n.ID ∧ n.ID ≤ 16 := by simp only [nOne, Bool.and_eq_true, decide_eq_true_eq] at h; omega
theorem nMay_iff {l : List ANode} : nMay l = true ↔ Up ANode.ID l ∧ ∀ n ∈ l, nOne n = true :=
  ⟨fun h => ⟨nRise_up l 0 h, fun n hn => (nRise_gt l 0 h n hn).2⟩, fun h => nRise_of l 0 h.1 fun n hn => ⟨by have := nOne_ge (h.2 n hn); omega, h.2 n hn⟩⟩
theorem nMay_len {l : List ANode} (h : nMay l = true) : l.length ≤ 16 := by
  have h1 := nMay_iff.1 h
  have h2 : risesL 16 1 (l.map ANode.ID) = true := (rises_iff _ _).2 ⟨by rw [List.pairwise_map]; exact h1.1, fun x hx => by
    obtain ⟨n, hn, rfl⟩ := List.mem_map.1 hx; exact nOne_ge (h1.2 n hn)⟩
  rcases risesL_len _ _ h2 with h3 | h3
  · rw [← List.length_map (f := ANode.ID), h3]; simp
  · rw [List.length_map] at h3; omega
theorem nfind_iff {l : List ANode} (h : nMay l = true) {id : Int} : nFindB l id = true ↔ ∃ n ∈ l, n.ID = id := by
  unfold nFindB; rw [nFair_ok h]; exact hits_iff (nMay_iff.1 h).1 id
theorem nfind_at {l : List ANode} (h : nMay l = true) {id : Int} (hb : nFindB l id = true) : nFindC l id ∈ l ∧ (nFindC l id).ID = id := by
  obtain ⟨x, hx, hk⟩ := hits_at (key := ANode.ID) hb
  rw [nFindC_yes hb hx]; rw [nFair_ok h] at hx; exact ⟨mem_of_get hx, hk⟩
theorem nfind_is {l : List ANode} (h : nMay l = true) {n : ANode} (hn : n ∈ l) : nFindB l n.ID = true ∧ nFindC l n.ID = n := by
  have hb := (nfind_iff h).2 ⟨n, hn, rfl⟩
  have h1 := nfind_at h hb
  exact ⟨hb, up_inj (nMay_iff.1 h).1 h1.1 hn h1.2⟩
theorem stands_iff {l : List ANode} (h : nMay l = true) {id : Int} : standsL l id = true ↔ ∃ n ∈ l, n.ID = id ∧ n.State ≠ 2 := by
  unfold standsL
  simp only [Bool.and_eq_true, Bool.not_eq_true', decide_eq_false_iff_not]
  constructor
  · rintro ⟨h1, h2⟩
    have h3 := nfind_at h h1
    exact ⟨_, h3.1, h3.2, h2⟩
  · rintro ⟨n, hn, rfl, hs⟩
    have h1 := nfind_is h hn
    exact ⟨h1.1, by rw [h1.2]; exact hs⟩
theorem nadd_cases {l : List ANode} (h : nMay l = true) (n : ANode) : (nAddL l n).2 ≠ 0 ∨ ((nAddL l n).2 = 0 ∧ nMay (nAddL l n).1 = true ∧ ∀ x, x ∈ (nAddL l n).1 ↔ x = n ∨ x ∈ l) := by
  have h1 := nMay_iff.1 h
  unfold nAddL; rw [nFair_ok h]
  split
  · left; simp
  · rename_i hn
    split
    · left; simp
    · rename_i hh
      right
      have hno : ∀ x ∈ l, x.ID ≠ n.ID := fun x hx e => hh ((hits_iff h1.1 n.ID).2 ⟨x, hx, e⟩)
      refine ⟨rfl, nMay_iff.2 ⟨ins_upG h1.1 hno, fun x hx => ?_⟩, fun x => ins_memG _⟩
      rcases (ins_memG _).1 hx with rfl | hx
      · simpa using fun e => hn (.inl e)
      · exact h1.2 x hx
theorem nset_cases {l : List ANode} (h : nMay l = true) (id st : Int) : (nSetL l id st).2 ≠ 0 ∨ ((nSetL l id st).2 = 0 ∧ nMay (nSetL l id st).1 = true ∧ (0 ≤ st ∧ st ≤ 2) ∧ nFindB l id = true ∧ (nFindC l id).State ≠ 2 ∧ { nFindC l id with State := st } ∈ (nSetL l id st).1 ∧ (∀ x ∈ l, x.ID ≠ id → x ∈ (nSetL l id st).1) ∧ ∀ x ∈ (nSetL l id st).1, x = { nFindC l id with State := st } ∨ (x ∈ l ∧ x.ID ≠ id)) := by
  have h1 := nMay_iff.1 h
  unfold nSetL; rw [nFair_ok h]
  split
  · rename_i hb
    split
    · rename_i hst
      split
      · left; simp
      · rename_i hs
        right
        have hb' : nFindB l id = true := by unfold nFindB; rw [nFair_ok h]; exact hb
        obtain ⟨x, hx, hk⟩ := hits_at (key := ANode.ID) hb
        have hlt := lt_of_get hx
        have hfx : nFindC l id = x := nFindC_yes hb' (by rw [nFair_ok h]; exact hx)
        have hkk : (nFindC l id).ID = id := by rw [hfx]; exact hk
        have hone := h1.2 x (mem_of_get hx)
        have hat := nfind_at h hb'
        refine ⟨rfl, nMay_iff.2 ⟨set_upG h1.1 hx (by rw [hfx]), fun y hy => ?_⟩, hst, hb', fun e => hs (.inl e), mem_of_get (List.getElem?_set_self hlt), fun y hy hne => ?_, fun y hy => ?_⟩
        · rcases List.mem_or_eq_of_mem_set hy with hy | rfl
          · exact h1.2 y hy
          · rw [hfx]; simp only [nOne, Bool.and_eq_true, decide_eq_true_eq] at hone ⊢; omega
        · obtain ⟨q, hq⟩ := List.getElem?_of_mem hy
          by_cases e : low (fun (y : ANode) => cmpI y.ID id) l = q
          · rw [← e] at hq; rw [hq] at hx; cases hx; exact absurd hk hne
          · exact mem_of_get (show (l.set _ _)[q]? = some y by rw [List.getElem?_set_ne e]; exact hq)
        · obtain ⟨q, hq⟩ := List.getElem?_of_mem hy
          by_cases e : low (fun (y : ANode) => cmpI y.ID id) l = q
          · subst e; rw [List.getElem?_set_self hlt] at hq; cases hq; exact .inl rfl
          · rw [List.getElem?_set_ne e] at hq
            refine .inr ⟨mem_of_get hq, fun hid => ?_⟩
            rcases Nat.lt_trichotomy q (low (fun (y : ANode) => cmpI y.ID id) l) with h3 | h3 | h3
            · have := h1.1.get h3 hq hx; omega
            · omega
            · have := h1.1.get h3 hx hq; omega
    · left; simp
  · left; simp
theorem of_none {l : List AChunk} (h : cMay l = true) {n : Int} (h0 : ¬ (ofL l n).length > 0) : ∀ c ∈ l, n ∉ c.Holders := by
  intro c hc hn
  apply h0
  have : c.ID ∈ ofL l n := by
    unfold ofL; rw [cFair_ok h]
    exact List.mem_map.2 ⟨c, List.mem_filter.2 ⟨hc, by rw [List.contains_iff_mem]; exact hn⟩, rfl⟩
  exact List.length_pos_of_mem this
def mHold (ns : List ANode) (cs : List AChunk) : Prop := ∀ c ∈ cs, ∀ id ∈ c.Holders, ∃ n ∈ ns, n.ID = id ∧ n.State ≠ 2
theorem mMay_iff {m : AMeta} : mMay m = true ↔ nMay m.Nodes = true ∧ cMay m.Chunks = true ∧ sMay m.Sessions = true ∧ mHold m.Nodes m.Chunks := by
  unfold mMay
  simp only [Bool.and_eq_true, Bool.not_eq_true']
  constructor
  · rintro ⟨⟨⟨h1, h2⟩, h3⟩, h4⟩
    refine ⟨h1, h2, h3, fun c hc id hid => (stands_iff h1).1 ?_⟩
    rw [List.any_eq_false] at h4
    have h5 := h4 c hc
    rw [Bool.not_eq_true, List.any_eq_false] at h5
    simpa using h5 id hid
  · rintro ⟨h1, h2, h3, h4⟩
    refine ⟨⟨⟨h1, h2⟩, h3⟩, ?_⟩
    rw [List.any_eq_false]
    intro c hc
    rw [Bool.not_eq_true, List.any_eq_false]
    intro id hid
    rw [(stands_iff h1).2 (h4 c hc id hid)]; simp
theorem hold_sub {ns : List ANode} {cs cs' : List AChunk} (h : mHold ns cs) (hs : ∀ c' ∈ cs', ∀ id ∈ c'.Holders, (∃ c ∈ cs, id ∈ c.Holders) ∨ ∃ n ∈ ns, n.ID = id ∧ n.State ≠ 2) : mHold ns cs' := by
  intro c' hc' id hid
  rcases hs c' hc' id hid with ⟨c, hc, h1⟩ | h1
  · exact h c hc id h1
  · exact h1
theorem create_hold {l : List AChunk} (hl : cMay l = true) (id sum : Int) : ∀ c' ∈ (createL l id sum).1, ∀ n ∈ c'.Holders, ∃ c ∈ l, n ∈ c.Holders := by
  intro c' hc' n hn
  rcases create_cases l id sum with ⟨h1, _⟩ | ⟨_, _, _, _, h1⟩
  · rw [h1] at hc'; simp at hc'
  · rw [h1, cFair_ok hl] at hc'
    rcases (ins_memG _).1 hc' with rfl | h2
    · simp at hn
    · exact ⟨c', h2, hn⟩
theorem chg_hold {l : List AChunk} (hl : cMay l = true) (id : Int) {f : AChunk → AChunk × Int} {Q : Int → Prop} (hf : ∀ c, cOne c = true → (f c).2 = 0 → ∀ n ∈ (f c).1.Holders, n ∈ c.Holders ∨ Q n) : ∀ c' ∈ (chgL l id f).1, ∀ n ∈ c'.Holders, (∃ c ∈ l, n ∈ c.Holders) ∨ Q n := by
  intro c' hc' n hn
  cases hb : findB l id with
  | false => rw [chg_no hb] at hc'; simp at hc'
  | true =>
    rw [chg_at hl hb] at hc'
    split at hc'
    · rename_i he
      rcases List.mem_or_eq_of_mem_set hc' with h1 | rfl
      · exact .inl ⟨c', h1, hn⟩
      · rcases hf _ (may_one hl _ (find_in hl hb)) he n hn with h2 | h2
        · exact .inl ⟨_, find_in hl hb, h2⟩
        · exact .inr h2
    · simp at hc'
theorem write_hold (sum : Int) (c : AChunk) (ho : cOne c = true) (he : (writeF sum c).2 = 0) : ∀ n ∈ (writeF sum c).1.Holders, n ∈ c.Holders ∨ False := by
  intro n hn; rw [(write_ok1 ho he).1] at hn; simp at hn
theorem unclaim_hold (node : Int) (c : AChunk) (ho : cOne c = true) (he : (unclaimF node c).2 = 0) : ∀ n ∈ (unclaimF node c).1.Holders, n ∈ c.Holders ∨ False := by
  intro n hn; rw [(unclaim_ok1 ho he).2.1] at hn; exact .inl ((cut_sub _ _).subset hn)
theorem claim_hold {l : List AChunk} (hl : cMay l = true) (id node v : Int) : ∀ c' ∈ (claimL l id node v).1, ∀ n ∈ c'.Holders, (∃ c ∈ l, n ∈ c.Holders) ∨ n = node := by
  unfold claimL; split
  · intro c' hc'; simp at hc'
  · rename_i hr
    refine chg_hold hl id (Q := fun n => n = node) fun c ho he n hn => ?_
    rw [(claim_ok1 ho (by omega) (by omega) he).2.2.1] at hn
    rcases (ins_memG _).1 hn with h | h
    · exact .inr h
    · exact .inl h
theorem forget_hold {l : List AChunk} (hl : cMay l = true) (id : Int) : ∀ c' ∈ (forgetL l id).1, ∀ n ∈ c'.Holders, ∃ c ∈ l, n ∈ c.Holders := by
  intro c' hc' n hn
  unfold forgetL at hc'; rw [cFair_ok hl] at hc'
  split at hc'
  · exact ⟨c', (cut_sub _ _).subset hc', hn⟩
  · simp at hc'
/-- what a command makes of nodes and chunks that may be, may be -/
theorem doX_may {m : AMeta} (hm : mMay m = true) (c : ACmd) : nMay (doX m c).1 = true ∧ cMay (doX m c).2.1 = true ∧ mHold (doX m c).1 (doX m c).2.1 ∧ ((doX m c).2.2.1 ≠ 0 → (doX m c).1 = m.Nodes ∧ (doX m c).2.1 = m.Chunks) := by
  obtain ⟨h1, h2, h3, h4⟩ := mMay_iff.1 hm
  have hsame : nMay m.Nodes = true ∧ cMay m.Chunks = true ∧ mHold m.Nodes m.Chunks := ⟨h1, h2, h4⟩
  rcases kinds c.Kind with hk | hk | hk | hk | hk | hk | hk | hk | hk
  · rw [doX_0 hk]; exact ⟨h1, h2, h4, fun _ => ⟨rfl, rfl⟩⟩
  · rw [doX_1 hk]
    rcases nadd_cases h1 ⟨c.A, c.B, c.C, 0⟩ with h5 | ⟨h5, h6, h7⟩
    · simp only [if_neg h5]; exact ⟨h1, h2, h4, fun _ => ⟨trivial, trivial⟩⟩
    · simp only [if_pos h5]
      refine ⟨h6, h2, fun x hx id hid => ?_, fun h => absurd h5 h⟩
      obtain ⟨n, hn, h8⟩ := h4 x hx id hid
      exact ⟨n, (h7 n).2 (.inr hn), h8⟩
  · rw [doX_2 hk]
    by_cases h0 : c.B = 2 ∧ (ofL m.Chunks c.A).length > 0
    · simp only [if_pos h0]; exact ⟨h1, h2, h4, fun _ => ⟨trivial, trivial⟩⟩
    · simp only [if_neg h0]
      rcases nset_cases h1 c.A c.B with h5 | ⟨h5, h6, h7, h8, h9, h10, h11, _⟩
      · simp only [if_neg h5]; exact ⟨h1, h2, h4, fun _ => ⟨trivial, trivial⟩⟩
      · simp only [if_pos h5]
        refine ⟨h6, h2, fun x hx id hid => ?_, fun h => absurd h5 h⟩
        obtain ⟨n, hn, h12, h13⟩ := h4 x hx id hid
        by_cases e : id = c.A
        · refine ⟨_, h10, by rw [e]; exact (nfind_at h1 h8).2, fun h14 => ?_⟩
          have h15 : c.B = 2 := h14
          exact of_none h2 (fun h16 => h0 ⟨h15, h16⟩) x hx (e ▸ hid)
        · exact ⟨n, h11 n hn (by omega), h12, h13⟩
  · rw [doX_3 hk]; unfold wrL
    split
    · exact ⟨h1, h2, h4, fun _ => ⟨rfl, rfl⟩⟩
    · by_cases he : (createL m.Chunks c.A (IntKind.u32.wrap c.B)).2 = 0
      · simp only [if_pos he]
        exact ⟨h1, (create_may _ _ _).1, hold_sub h4 fun c' hc' n hn => .inl (create_hold h2 _ _ c' hc' n hn), fun h => absurd he h⟩
      · simp only [if_neg he]; exact ⟨h1, h2, h4, fun _ => ⟨trivial, trivial⟩⟩
  · rw [doX_4 hk]; unfold wrL
    split
    · exact ⟨h1, h2, h4, fun _ => ⟨rfl, rfl⟩⟩
    · by_cases he : (chgL m.Chunks c.A (writeF (IntKind.u32.wrap c.B))).2 = 0
      · simp only [if_pos he]
        refine ⟨h1, (chg_may _ _ (good_write _)).1, hold_sub h4 fun c' hc' n hn => ?_, fun h => absurd he h⟩
        rcases chg_hold h2 c.A (write_hold _) c' hc' n hn with h | h
        · exact .inl h
        · exact h.elim
      · simp only [if_neg he]; exact ⟨h1, h2, h4, fun _ => ⟨trivial, trivial⟩⟩
  · rw [doX_5 hk]
    by_cases hs : standsL m.Nodes c.B = true
    · simp only [if_pos hs]
      by_cases he : (claimL m.Chunks c.A c.B c.C).2 = 0
      · simp only [if_pos he]
        refine ⟨h1, (claim_may _ _ _ _).1, hold_sub h4 fun c' hc' n hn => ?_, fun h => absurd he h⟩
        rcases claim_hold h2 c.A c.B c.C c' hc' n hn with h | h
        · exact .inl h
        · exact .inr (h ▸ (stands_iff h1).1 hs)
      · simp only [if_neg he]; exact ⟨h1, h2, h4, fun _ => ⟨trivial, trivial⟩⟩
    · simp only [if_neg hs]; exact ⟨h1, h2, h4, fun _ => ⟨trivial, trivial⟩⟩
  · rw [doX_6 hk]
    by_cases he : (chgL m.Chunks c.A (unclaimF c.B)).2 = 0
    · simp only [if_pos he]
      refine ⟨h1, (chg_may _ _ (good_unclaim _)).1, hold_sub h4 fun c' hc' n hn => ?_, fun h => absurd he h⟩
      rcases chg_hold h2 c.A (unclaim_hold _) c' hc' n hn with h | h
      · exact .inl h
      · exact h.elim
    · simp only [if_neg he]; exact ⟨h1, h2, h4, fun _ => ⟨trivial, trivial⟩⟩
  · rw [doX_7 hk]
    by_cases he : (forgetL m.Chunks c.A).2 = 0
    · simp only [if_pos he]
      exact ⟨h1, (forget_may _ _).1, hold_sub h4 fun c' hc' n hn => .inl (forget_hold h2 _ c' hc' n hn), fun h => absurd he h⟩
    · simp only [if_neg he]; exact ⟨h1, h2, h4, fun _ => ⟨trivial, trivial⟩⟩
  · rw [doX_8 hk]; exact ⟨h1, h2, h4, fun _ => ⟨rfl, rfl⟩⟩
theorem doX_err (m : AMeta) (c : ACmd) : 0 ≤ (doX m c).2.2.1 ∧ (doX m c).2.2.1 ≤ 10 := by
  rcases kinds c.Kind with hk | hk | hk | hk | hk | hk | hk | hk | hk
  · rw [doX_0 hk]; exact err_0 m c
  · rw [doX_1 hk]; exact err_1 m c
  · rw [doX_2 hk]; exact err_2 m c
  · rw [doX_3 hk]; exact err_3 m c
  · rw [doX_4 hk]; exact err_4 m c
  · rw [doX_5 hk]; exact err_5 m c
  · rw [doX_6 hk]; exact err_6 m c
  · rw [doX_7 hk]; exact err_7 m c
  · rw [doX_8 hk]; exact ⟨(by decide : (0 : Int) ≤ 1), (by decide : (1 : Int) ≤ 10)⟩
/-! ### sessions -/
theorem sRise_of : ∀ (l : List ASession) (z : Int), Up ASession.Client l → (∀ n ∈ l, z < n.Client ∧ sOne n = true) → sRise z l = true
  | [], _, _, _ => rfl
  | m :: l, z, hu, h => by
    have h1 := List.pairwise_cons.1 hu
    have h2 := h m (by simp)
    simp only [sRise, Bool.and_eq_true, Bool.not_eq_true', Bool.or_eq_false_iff, Bool.not_eq_false', decide_eq_false_iff_not]
    exact ⟨⟨h2.2, by omega⟩, sRise_of l _ h1.2 fun n hn => ⟨h1.1 n hn, (h n (by simp [hn])).2⟩⟩
theorem sOne_ge {n : ASession} (h : sOne n = true) : 1 ≤ n.Client ∧ n.Client ≤ 1048576 ∧ 1 ≤ n.Seq ∧ n.Seq ≤ 1099511627776 := by simp only [sOne, Bool.and_eq_true, decide_eq_true_eq] at h; omega
theorem sMay_iff {l : List ASession} : sMay l = true ↔ Up ASession.Client l ∧ (∀ n ∈ l, sOne n = true) ∧ l.length ≤ 16 := by
  unfold sMay; simp only [Bool.and_eq_true, decide_eq_true_eq]
  exact ⟨fun h => ⟨sRise_up l 0 h.1, fun n hn => (sRise_gt l 0 h.1 n hn).2, h.2⟩, fun h => ⟨sRise_of l 0 h.1 fun n hn => ⟨by have := sOne_ge (h.2.1 n hn); omega, h.2.1 n hn⟩, h.2.2⟩⟩
theorem sfind_is {l : List ASession} (hu : Up ASession.Client l) {x : ASession} (hx : x ∈ l) : findS l x.Client = x := by
  have hb : hitW (fun (y : ASession) => cmpI y.Client x.Client) l = true := by rw [hitW_hits (hu.mono x.Client)]; exact (hits_iff hu _).2 ⟨x, hx, rfl⟩
  obtain ⟨y, hy, hk⟩ := hitW_at hb
  rw [findS_hit hb hy]; exact up_inj hu (mem_of_get hy) hx (cmpI_zero.1 hk)
theorem set_ins {α : Type} {l : List α} {n : Nat} (hn : n ≤ l.length) (z c : α) : (l.take n ++ [z] ++ l.drop n).set n c = l.take n ++ [c] ++ l.drop n := by
  have e : (l.take n).length = n := by simp; omega
  rw [List.append_assoc, List.set_append_right _ _ (by omega), e, Nat.sub_self]; simp
theorem look_err (l : List ASession) (client seq : Int) : (lookS l client seq).2.2 = 0 ∨ (lookS l client seq).2.2 = 1 ∨ (lookS l client seq).2.2 = 9 ∨ (lookS l client seq).2.2 = 10 := by
  unfold lookS; repeat' split
  all_goals simp
theorem put_err (l : List ASession) (client seq a b : Int) : (putS l client seq a).2 = (putS l client seq b).2 := by
  unfold putS; repeat' split
  all_goals rfl
theorem put_err7 {l : List ASession} {client seq a : Int} (h1 : (lookS l client seq).2.2 = 0) (h2 : (lookS l client seq).2.1 = false) : (putS l client seq a).2 = 0 ∨ (putS l client seq a).2 = 7 := by
  unfold putS; rw [if_neg (by omega), if_neg (by rw [h2]; decide)]; split <;> simp
theorem put_ok {l : List ASession} {client seq a : Int} (h : (putS l client seq a).2 = 0) : sMay l = true ∧ sOne ⟨client, seq, 0⟩ = true ∧ sMay (putS l client seq a).1 = true ∧ lookS (putS l client seq a).1 client seq = (a, true, 0) ∧
    (putS l client seq a).1 = if hits (fun (y : ASession) => cmpI y.Client client) l = true then l.set (low (fun (y : ASession) => cmpI y.Client client) l) ⟨client, seq, a⟩ else l.take (low (fun (y : ASession) => cmpI y.Client client) l) ++ [⟨client, seq, a⟩] ++ l.drop (low (fun (y : ASession) => cmpI y.Client client) l) := by
  unfold putS at h
  by_cases h1 : (lookS l client seq).2.2 = 0
  · rw [if_neg (by omega)] at h
    by_cases h2 : (lookS l client seq).2.1 = true
    · rw [if_pos h2] at h; cases h
    · rw [if_neg h2] at h
      by_cases h3 : hitW (fun (y : ASession) => cmpI y.Client client) l = false ∧ 16 ≤ l.length
      · rw [if_pos h3] at h; cases h
      · have hno : ¬ (!sMay l || !sOne ⟨client, seq, 0⟩) = true := by
          intro h4; unfold lookS at h1; rw [if_pos h4] at h1; cases h1
        have hsm : sMay l = true ∧ sOne ⟨client, seq, 0⟩ = true := by simpa using hno
        have hiff := sMay_iff.1 hsm.1
        have hmo := hiff.1.mono client
        have hso : sOne ⟨client, seq, a⟩ = true := hsm.2
        have hlow := low_le (fun (y : ASession) => cmpI y.Client client) l
        have e : (putS l client seq a).1 = if hits (fun (y : ASession) => cmpI y.Client client) l = true then l.set (low (fun (y : ASession) => cmpI y.Client client) l) ⟨client, seq, a⟩ else l.take (low (fun (y : ASession) => cmpI y.Client client) l) ++ [⟨client, seq, a⟩] ++ l.drop (low (fun (y : ASession) => cmpI y.Client client) l) := by
          unfold putS; rw [if_neg (by omega), if_neg h2, if_neg h3, hitW_hits hmo, bsW_low hmo]
          simp only
          split
          · rfl
          · exact set_ins hlow _ _
        rw [hitW_hits hmo] at h3
        have hres : sMay (putS l client seq a).1 = true ∧ (⟨client, seq, a⟩ : ASession) ∈ (putS l client seq a).1 := by
          rw [e]
          by_cases hh : hits (fun (y : ASession) => cmpI y.Client client) l = true
          · rw [if_pos hh]
            obtain ⟨x, hx, hk⟩ := hits_at (key := ASession.Client) hh
            refine ⟨sMay_iff.2 ⟨set_upG hiff.1 hx hk.symm, fun y hy => ?_, by rw [List.length_set]; exact hiff.2.2⟩, mem_of_get (List.getElem?_set_self (lt_of_get hx))⟩
            rcases List.mem_or_eq_of_mem_set hy with hy | rfl
            · exact hiff.2.1 y hy
            · exact hso
          · rw [if_neg hh]
            have hl : l.length < 16 := by
              rcases Nat.lt_or_ge l.length 16 with h5 | h5
              · exact h5
              · exact absurd ⟨by simpa using hh, h5⟩ h3
            refine ⟨sMay_iff.2 ⟨ins_upG (key := ASession.Client) (c := ⟨client, seq, a⟩) hiff.1 (fun x hx e => hh ((hits_iff hiff.1 client).2 ⟨x, hx, e⟩)), fun y hy => ?_, ?_⟩, (ins_memG _).2 (.inl rfl)⟩
            · rcases (ins_memG _).1 hy with rfl | hy
              · exact hso
              · exact hiff.2.1 y hy
            · simp only [List.length_append, List.length_take, List.length_drop, List.length_cons, List.length_nil]; omega
        refine ⟨hsm.1, hsm.2, hres.1, ?_, e⟩
        have hf := sfind_is (sMay_iff.1 hres.1).1 hres.2
        unfold lookS
        have hf' : findS (putS l client seq a).1 client = ⟨client, seq, a⟩ := hf
        rw [hf', if_neg (by rw [hres.1, hsm.2]; decide), if_neg (by simp), if_pos rfl]
  · rw [if_pos h1] at h; exact absurd h h1
/-! ### Apply and Run -/
def applyM (m : AMeta) (c : ACmd) : AMeta × Int := if mMay m = false then (m, -1) else if c.Client = 0 then doesM m c else if (lookS m.Sessions c.Client c.Seq).2.2 ≠ 0 then (m, -(lookS m.Sessions c.Client c.Seq).2.2) else if (lookS m.Sessions c.Client c.Seq).2.1 = true then (m, (lookS m.Sessions c.Client c.Seq).1) else
  if (putS m.Sessions c.Client c.Seq 0).2 ≠ 0 then (m, -(putS m.Sessions c.Client c.Seq 0).2) else (⟨(doesM m c).1.Nodes, (doesM m c).1.Chunks, (putS m.Sessions c.Client c.Seq (doesM m c).2).1⟩, (doesM m c).2)
def runM (m : AMeta) : List ACmd → AMeta × List Int
  | [] => (m, [])
  | c :: l => ((runM (applyM m c).1 l).1, (applyM m c).2 :: (runM (applyM m c).1 l).2)
theorem runM_append : ∀ (l l' : List ACmd) (m : AMeta), runM m (l ++ l') = ((runM (runM m l).1 l').1, (runM m l).2 ++ (runM (runM m l).1 l').2)
  | [], l', m => rfl
  | c :: l, l', m => by
    rw [List.cons_append]
    simp only [runM, runM_append l l']; rfl
theorem runM_snoc (l : List ACmd) (m : AMeta) (c : ACmd) : runM m (l ++ [c]) = ((applyM (runM m l).1 c).1, (runM m l).2 ++ [(applyM (runM m l).1 c).2]) := by rw [runM_append]; rfl
theorem runM_len : ∀ (l : List ACmd) (m : AMeta), (runM m l).2.length = l.length
  | [], _ => rfl
  | c :: l, m => by simp only [runM, List.length_cons, runM_len l]
theorem doesM_may {m : AMeta} (hm : mMay m = true) (c : ACmd) : mMay (doesM m c).1 = true := by
  obtain ⟨h1, h2, h3, _⟩ := doX_may hm c
  exact mMay_iff.2 ⟨h1, h2, (mMay_iff.1 hm).2.2.1, h3⟩
theorem applyM_may {m : AMeta} (hm : mMay m = true) (c : ACmd) : mMay (applyM m c).1 = true := by
  have hd := mMay_iff.1 (doesM_may hm c)
  unfold applyM
  rw [if_neg (by rw [hm]; decide)]
  split
  · exact doesM_may hm c
  · split
    · exact hm
    · split
      · exact hm
      · split
        · exact hm
        · rename_i h
          have h0 : (putS m.Sessions c.Client c.Seq (doesM m c).2).2 = 0 := by rw [put_err _ _ _ _ 0]; omega
          exact mMay_iff.2 ⟨hd.1, hd.2.1, (put_ok h0).2.2.1, hd.2.2.2⟩
theorem runM_may {m : AMeta} (hm : mMay m = true) (l : List ACmd) : mMay (runM m l).1 = true := by
  induction l generalizing m with
  | nil => exact hm
  | cons c l ih => exact ih (applyM_may hm c)
theorem mMay_nil : mMay ⟨[], [], []⟩ = true := by decide
def mSz (m : AMeta) : Prop := m.Nodes.length ≤ 100000 ∧ m.Chunks.length ≤ 100000 ∧ (∀ x ∈ m.Chunks, x.Holders.length ≤ 100000) ∧ m.Sessions.length ≤ 100000
theorem mMay_sz {m : AMeta} (hm : mMay m = true) : mSz m := by
  obtain ⟨h1, h2, h3, _⟩ := mMay_iff.1 hm
  have h4 := nMay_len h1
  have h5 := may_sz h2
  have h6 := (sMay_iff.1 h3).2.2
  exact ⟨by omega, by omega, fun x hx => by have := h5.2 x hx; omega, by omega⟩
theorem applyM_sz {m : AMeta} (h : mSz m) (c : ACmd) : mSz (applyM m c).1 := by
  cases hm : mMay m with
  | true => exact mMay_sz (applyM_may hm c)
  | false => unfold applyM; rw [if_pos hm]; exact h
theorem runM_sz {m : AMeta} (h : mSz m) (l : List ACmd) : mSz (runM m l).1 := by
  induction l generalizing m with
  | nil => exact h
  | cons c l ih => exact ih (applyM_sz h c)
theorem nil_sz : mSz ⟨[], [], []⟩ := mMay_sz mMay_nil



end Go.Proofs.YtldldcafklophaaGreat
