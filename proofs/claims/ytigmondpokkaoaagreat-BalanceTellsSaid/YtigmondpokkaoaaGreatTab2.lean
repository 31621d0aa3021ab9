/- Contracts of functions: what each call hands back, and that it leaves all that was there as it was. -/
import Derived.Test.YtigmondpokkaoaaGreatTab
set_option maxRecDepth 4000
set_option linter.all false
namespace Go.Proofs.YtigmondpokkaoaaGreat
open Go.RowKit



def writeF (sum : Int) (c : AChunk) : AChunk × Int := if 1073741824 ≤ c.Version then (c, 7) else ({ c with Version := c.Version + 1, Sum := sum, Holders := [] }, 0)
def claimF (node version : Int) (c : AChunk) : AChunk × Int := if version ≠ c.Version then (c, 9) else if hits (fun (y : Int) => cmpI y node) c.Holders = true then (c, 6) else ({ c with Holders := c.Holders.take (low (fun (y : Int) => cmpI y node) c.Holders) ++ [node] ++ c.Holders.drop (low (fun (y : Int) => cmpI y node) c.Holders) }, 0)
def unclaimF (node : Int) (c : AChunk) : AChunk × Int := if hits (fun (y : Int) => cmpI y node) c.Holders = true then ({ c with Holders := c.Holders.take (low (fun (y : Int) => cmpI y node) c.Holders) ++ c.Holders.drop (low (fun (y : Int) => cmpI y node) c.Holders + 1) }, 0) else (c, 5)
theorem kmap_len (ks : List KChunk) : (ks.map KChunk.c).length = ks.length := List.length_map _
def chgL (l : List AChunk) (id : Int) (f : AChunk → AChunk × Int) : List AChunk × Int :=
  if hits (fun (y : AChunk) => cmpI y.ID id) (cFair l) = true then
    match (cFair l)[low (fun (y : AChunk) => cmpI y.ID id) (cFair l)]? with
    | some c => if (f c).2 = 0 then ((cFair l).set (low (fun (y : AChunk) => cmpI y.ID id) (cFair l)) (f c).1, 0) else ([], (f c).2)
    | none => ([], 5)
  else ([], 5)
theorem chgL_at {l : List AChunk} {id : Int} {f : AChunk → AChunk × Int} {c : AChunk} (h : hits (fun (y : AChunk) => cmpI y.ID id) (cFair l) = true) (hc : (cFair l)[low (fun (y : AChunk) => cmpI y.ID id) (cFair l)]? = some c) :
    chgL l id f = if (f c).2 = 0 then ((cFair l).set (low (fun (y : AChunk) => cmpI y.ID id) (cFair l)) (f c).1, 0) else ([], (f c).2) := by
  unfold chgL; rw [if_pos h, hc]
theorem chgL_no {l : List AChunk} {id : Int} {f : AChunk → AChunk × Int} (h : hits (fun (y : AChunk) => cmpI y.ID id) (cFair l) = false) : chgL l id f = ([], 5) := by
  unfold chgL; rw [if_neg (by rw [h]; decide)]
theorem risesL_len {most : Int} : ∀ (l : List Int) (z : Int), risesL most z l = true → l = [] ∨ (l.length : Int) ≤ most + 1 - z
  | [], _, _ => .inl rfl
  | y :: l, z, h => by
    simp only [risesL, Bool.and_eq_true, Bool.not_eq_true', Bool.or_eq_false_iff, decide_eq_false_iff_not] at h
    right
    rcases risesL_len l _ h.2 with rfl | h1
    · simp; omega
    · simp only [List.length_cons]; omega
theorem cOne_rise {c : AChunk} (h : cOne c = true) : 1 ≤ c.Version ∧ c.Version ≤ 1073741824 ∧ risesL 16 1 c.Holders = true := by
  simp only [cOne, Bool.not_eq_true', Bool.or_eq_false_iff, decide_eq_false_iff_not, Bool.not_eq_false'] at h
  exact ⟨by omega, by omega, h.2⟩
theorem cOne_len {c : AChunk} (h : cOne c = true) : c.Holders.length ≤ 16 := by
  rcases risesL_len _ _ (cOne_rise h).2.2 with h1 | h1
  · rw [h1]; simp
  · omega
theorem cOne_up {c : AChunk} (h : cOne c = true) : Up (fun (x : Int) => x) c.Holders := risesL_up _ _ (cOne_rise h).2.2
theorem set_same {α : Type} {l : List α} {i : Nat} {x : α} (h : l[i]? = some x) : l.set i x = l := by
  apply List.ext_getElem?; intro j
  by_cases e : i = j
  · subst e; rw [List.getElem?_set_self (lt_of_get h), h]
  · rw [List.getElem?_set_ne e]
/-- what a call of a function on one chunk does -/
def DoLaw (w : World) (f : FuncId) (kf : List Value) (dof : AChunk → AChunk × Int) : Prop :=
  ∀ (S : Nat → Prop) (w' : World) (F : List Res) (A : Option Addr) (c : Nat) (ks : List KChunk) (i : Nat) (k : KChunk), Hp w S w' (rOwn tK 43 A c ks :: rRows tInt 3 (ks.map kRow) :: F) → ks[i]? = some k → cOne k.c = true →
    Rets Tryz.prog f (([.pointer (some ((adr A).add (i * 4)))] : List Value) ++ kf).toArray w' fun v w'' => ∃ k' : KChunk, k'.c = (dof k.c).1 ∧ v = .int .i64 (dof k.c).2 ∧ Hp w S w'' (rOwn tK 43 A c (ks.set i k') :: rRows tInt 3 ((ks.set i k').map kRow) :: F)

theorem cFair_one (l : List AChunk) : ∀ x ∈ cFair l, cOne x = true := (cMay_iff.1 (cFair_may l)).1

def claimL (l : List AChunk) (id node version : Int) : List AChunk × Int := if node < 1 ∨ 16 < node then ([], 1) else chgL l id (claimF node version)

theorem up_inj {α : Type} {key : α → Int} {l : List α} (hu : Up key l) {x y : α} (hx : x ∈ l) (hy : y ∈ l) (h : key x = key y) : x = y := by
  obtain ⟨i, hi⟩ := List.getElem?_of_mem hx
  obtain ⟨j, hj⟩ := List.getElem?_of_mem hy
  rcases Nat.lt_trichotomy i j with h1 | h1 | h1
  · have := hu.get h1 hi hj; omega
  · subst h1; rw [hi] at hj; exact Option.some.inj hj
  · have := hu.get h1 hj hi; omega
theorem may_up {l : List AChunk} (h : cMay l = true) : Up AChunk.ID l := by have := cFair_up l; rwa [cFair_ok h] at this
theorem may_one {l : List AChunk} (h : cMay l = true) : ∀ x ∈ l, cOne x = true := (cMay_iff.1 h).1
theorem may_sz {l : List AChunk} (h : cMay l = true) : l.length ≤ 32 ∧ ∀ x ∈ l, x.Holders.length ≤ 16 := ⟨(cMay_iff.1 h).2.1, fun x hx => cOne_len (may_one h x hx)⟩
theorem may_nil : cMay [] = true := rfl
theorem find_get {l : List AChunk} (h : cMay l = true) {j : Int} (hb : findB l j = true) : l[low (fun (y : AChunk) => cmpI y.ID j) l]? = some (findC l j) ∧ (findC l j).ID = j := by
  unfold findB at hb
  obtain ⟨x, hx, hk⟩ := hits_at (key := AChunk.ID) hb
  have h1 := findC_yes hb hx
  rw [cFair_ok h] at hx
  rw [h1]; exact ⟨hx, hk⟩
theorem find_iff {l : List AChunk} (h : cMay l = true) {j : Int} : findB l j = true ↔ ∃ c ∈ l, c.ID = j := by
  unfold findB; rw [cFair_ok h]; exact hits_iff (may_up h) j
theorem find_in {l : List AChunk} (h : cMay l = true) {j : Int} (hb : findB l j = true) : findC l j ∈ l := mem_of_get (find_get h hb).1
theorem find_mem {l : List AChunk} (h : cMay l = true) {c : AChunk} (hc : c ∈ l) : findB l c.ID = true ∧ findC l c.ID = c := by
  have h1 := (find_iff h).2 ⟨c, hc, rfl⟩
  exact ⟨h1, up_inj (may_up h) (find_in h h1) hc (find_get h h1).2⟩
theorem find_none {l : List AChunk} (h : cMay l = true) {j : Int} (hb : findB l j = false) : (∀ c ∈ l, c.ID ≠ j) ∧ findC l j = ⟨0, 0, 0, []⟩ := by
  refine ⟨fun c hc e => ?_, findC_no hb⟩
  rw [(find_iff h).2 ⟨c, hc, e⟩] at hb; cases hb
theorem find_same {l m : List AChunk} (hl : cMay l = true) (hm : cMay m = true) {j : Int} (h : ∀ c : AChunk, c.ID = j → (c ∈ m ↔ c ∈ l)) : findB m j = findB l j ∧ findC m j = findC l j := by
  cases hb : findB l j with
  | true =>
    have h1 := find_get hl hb
    have h2 := find_mem hm ((h _ h1.2).2 (find_in hl hb))
    rw [h1.2] at h2
    exact h2
  | false =>
    have h1 := find_none hl hb
    have h2 : findB m j = false := by
      cases hb2 : findB m j with
      | false => rfl
      | true => exact absurd (find_get hm hb2).2 (h1.1 _ ((h _ (find_get hm hb2).2).1 (find_in hm hb2)))
    exact ⟨h2, by rw [h1.2, (find_none hm h2).2]⟩
theorem set_ids {l : List AChunk} {i : Nat} {c c' : AChunk} (hx : l[i]? = some c) (hid : c'.ID = c.ID) : (l.set i c').map AChunk.ID = l.map AChunk.ID := by
  rw [List.map_set, hid]
  exact set_same (by rw [List.getElem?_map, hx]; rfl)
theorem set_may {l : List AChunk} (h : cMay l = true) {i : Nat} {c c' : AChunk} (hx : l[i]? = some c) (hid : c'.ID = c.ID) (ho : cOne c' = true) : cMay (l.set i c') = true := by
  obtain ⟨h1, h2, h3⟩ := cMay_iff.1 h
  refine cMay_iff.2 ⟨fun x hm => ?_, by rw [List.length_set]; exact h2, by rw [set_ids hx hid]; exact h3⟩
  rcases List.mem_or_eq_of_mem_set hm with h4 | rfl
  · exact h1 x h4
  · exact ho
theorem set_find {l : List AChunk} (h : cMay l = true) {i : Nat} {c c' : AChunk} (hx : l[i]? = some c) (hid : c'.ID = c.ID) (ho : cOne c' = true) :
    cMay (l.set i c') = true ∧ findB (l.set i c') c.ID = true ∧ findC (l.set i c') c.ID = c' ∧ ∀ j, j ≠ c.ID → findB (l.set i c') j = findB l j ∧ findC (l.set i c') j = findC l j := by
  have hm := set_may h hx hid ho
  have h1 : (l.set i c')[i]? = some c' := List.getElem?_set_self (lt_of_get hx)
  have h2 := find_mem hm (mem_of_get h1)
  rw [hid] at h2
  refine ⟨hm, h2.1, h2.2, fun j hj => find_same h hm fun x hxj => ⟨fun h3 => ?_, fun h3 => ?_⟩⟩
  · rcases List.mem_or_eq_of_mem_set h3 with h4 | rfl
    · exact h4
    · rw [hid] at hxj; exact absurd hxj.symm hj
  · obtain ⟨q, hq⟩ := List.getElem?_of_mem h3
    by_cases e : i = q
    · subst e; rw [hx] at hq; cases hq; exact absurd hxj.symm hj
    · exact mem_of_get (show (l.set i c')[q]? = some x by rw [List.getElem?_set_ne e]; exact hq)
theorem chg_at {l : List AChunk} (h : cMay l = true) {id : Int} (hb : findB l id = true) (f : AChunk → AChunk × Int) : chgL l id f = if (f (findC l id)).2 = 0 then (l.set (low (fun (y : AChunk) => cmpI y.ID id) l) (f (findC l id)).1, 0) else ([], (f (findC l id)).2) := by
  have h1 := find_get h hb
  have h2 := chgL_at (l := l) (id := id) (f := f) (c := findC l id) hb (by rw [cFair_ok h]; exact h1.1)
  rw [h2, cFair_ok h]
theorem chg_no {l : List AChunk} {id : Int} (hb : findB l id = false) (f : AChunk → AChunk × Int) : chgL l id f = ([], 5) := chgL_no hb
theorem hold_iff {c : AChunk} (ho : cOne c = true) (n : Int) : hits (fun (y : Int) => cmpI y n) c.Holders = true ↔ n ∈ c.Holders := by
  have h := hits_iff (key := fun (x : Int) => x) (cOne_up ho) n
  rw [h]; simp
def fewL (l : List AChunk) : Bool := decide (l.length ≤ 60) && l.all (fun c => decide (c.Holders.length ≤ 30))
theorem few_sz {l : List AChunk} (h : fewL l = true) : l.length ≤ 60 ∧ ∀ x ∈ l, x.Holders.length ≤ 30 := by
  simp only [fewL, Bool.and_eq_true, List.all_eq_true, decide_eq_true_eq] at h; exact h
/-! ### writes -/
theorem cOne_write {c : AChunk} (h : cOne c = true) (hv : c.Version < 1073741824) (sum : Int) : cOne { c with Version := c.Version + 1, Sum := sum, Holders := [] } = true := by
  have := cOne_rise h
  simp [cOne, risesL]; omega
theorem writes_no {l : List AChunk} {id sum : Int} (h : cMay l = true) (hne : (chgL l id (writeF sum)).2 ≠ 0) : findB l id = false ∧ (chgL l id (writeF sum)).2 = 5 ∨ findB l id = true ∧ (findC l id).Version = 1073741824 := by
  cases hb : findB l id with
  | false => left; rw [chg_no hb]; exact ⟨rfl, rfl⟩
  | true =>
    right; refine ⟨rfl, ?_⟩
    have h1 := cOne_rise (may_one h _ (find_in h hb))
    rw [chg_at h hb] at hne
    by_cases hv : 1073741824 ≤ (findC l id).Version
    · omega
    · exfalso; apply hne; simp [writeF, hv]
theorem writes_yes {l : List AChunk} {id sum : Int} (h : cMay l = true) (he : (chgL l id (writeF sum)).2 = 0) : findB l id = true ∧ (findC l id).Version < 1073741824 ∧ cMay (chgL l id (writeF sum)).1 = true ∧ findB (chgL l id (writeF sum)).1 id = true ∧
    findC (chgL l id (writeF sum)).1 id = { findC l id with Version := (findC l id).Version + 1, Sum := sum, Holders := [] } ∧ (chgL l id (writeF sum)).1.length = l.length := by
  cases hb : findB l id with
  | false => rw [chg_no hb] at he; cases he
  | true =>
    have h1 := find_get h hb
    by_cases hv : 1073741824 ≤ (findC l id).Version
    · rw [chg_at h hb, if_neg (by simp [writeF, hv])] at he; simp [writeF, hv] at he
    · have h2 : chgL l id (writeF sum) = (l.set (low (fun (y : AChunk) => cmpI y.ID id) l) { findC l id with Version := (findC l id).Version + 1, Sum := sum, Holders := [] }, 0) := by
        rw [chg_at h hb]; simp [writeF, hv]
      obtain ⟨h3, h4, h5, _⟩ := set_find (c' := { findC l id with Version := (findC l id).Version + 1, Sum := sum, Holders := [] }) h h1.1 rfl (cOne_write (may_one h _ (find_in h hb)) (by omega) sum)
      rw [h2]; rw [h1.2] at h4 h5
      exact ⟨rfl, by omega, h3, h4, h5, List.length_set ..⟩
theorem claim_err {l : List AChunk} {id node version : Int} (h : cMay l = true) (hb : findB l id = true) (h1 : 1 ≤ node) (h2 : node ≤ 16) : (claimL l id node version).2 = if version ≠ (findC l id).Version then 9 else if node ∈ (findC l id).Holders then 6 else 0 := by
  have ho := may_one h _ (find_in h hb)
  unfold claimL
  rw [if_neg (by omega), chg_at h hb]
  simp only [claimF, hold_iff ho]
  by_cases hv : version = (findC l id).Version
  · by_cases hm : node ∈ (findC l id).Holders <;> simp [hv, hm]
  · simp [hv]

end Go.Proofs.YtigmondpokkaoaaGreat
