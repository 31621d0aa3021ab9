/- Contracts of functions: what each call hands back, and that it leaves all that was there as it was. -/
import Derived.Test.YtlnjmkmhmbijmaaGreatB0
set_option maxRecDepth 4000
set_option linter.all false
namespace Go.Proofs.YtlnjmkmhmbijmaaGreat
open Go.RowKit
abbrev crcTab : List (BitVec 32) := [0x00000000, 0x1db71064, 0x3b6e20c8, 0x26d930ac, 0x76dc4190, 0x6b6b51f4, 0x4db26158, 0x5005713c, 0xedb88320, 0xf00f9344, 0xd6d6a3e8, 0xcb61b38c, 0x9b64c2b0, 0x86d3d2d4, 0xa00ae278, 0xbdbdf21c]
def crcAt (i : Nat) : BitVec 32 := crcTab.getD i 0
def crcT (x : BitVec 32) : BitVec 32 := crcAt (x &&& 15#32).toNat ^^^ (x >>> 4)
theorem crcAt_top : ∀ i j : Fin 16, crcAt i.val >>> 28 = crcAt j.val >>> 28 → i = j := by decide +kernel
theorem and15_lt (x : BitVec 32) : (x &&& 15#32).toNat < 16 := by
  rw [BitVec.toNat_and]
  exact Nat.lt_of_le_of_lt Nat.and_le_right (by decide)
theorem crcT_top (x : BitVec 32) : crcT x >>> 28 = crcAt (x &&& 15#32).toNat >>> 28 := by
  unfold crcT
  rw [BitVec.ushiftRight_xor_distrib, ← BitVec.shiftRight_add]
  rw [show x >>> (4 + 28) = 0#32 from BitVec.ushiftRight_eq_zero (by decide)]
  exact BitVec.xor_zero
theorem split15 (x y : BitVec 32) (h1 : x &&& 15#32 = y &&& 15#32) (h2 : x >>> 4 = y >>> 4) : x = y := by
  apply BitVec.eq_of_toNat_eq
  have a1 : x.toNat % 16 = y.toNat % 16 := by
    have := congrArg BitVec.toNat h1
    simp only [BitVec.toNat_and, BitVec.toNat_ofNat] at this
    have e : ∀ n : Nat, n &&& (15 % 2 ^ 32) = n % 16 := fun n => Nat.and_two_pow_sub_one_eq_mod n 4
    rwa [e, e] at this
  have a2 : x.toNat / 16 = y.toNat / 16 := by
    have := congrArg BitVec.toNat h2
    simpa [BitVec.toNat_ushiftRight, Nat.shiftRight_eq_div_pow] using this
  omega
theorem xor_inj {n : Nat} {a x y : BitVec n} (h : a ^^^ x = a ^^^ y) : x = y := by
  have := congrArg (a ^^^ ·) h
  simpa [← BitVec.xor_assoc] using this
theorem crcT_inj {x y : BitVec 32} (h : crcT x = crcT y) : x = y := by
  have h1 : crcT x >>> 28 = crcT y >>> 28 := by rw [h]
  rw [crcT_top, crcT_top] at h1
  have h2 := crcAt_top ⟨_, and15_lt x⟩ ⟨_, and15_lt y⟩ h1
  have h3 : (x &&& 15#32).toNat = (y &&& 15#32).toNat := by injection h2
  have h4 := BitVec.eq_of_toNat_eq h3
  refine split15 x y h4 ?_
  unfold crcT at h
  rw [h3] at h
  exact xor_inj h
def crcB (x : BitVec 32) (b : BitVec 8) : BitVec 32 := crcT (crcT (x ^^^ b.setWidth 32))
theorem crcB_inj {x y : BitVec 32} {b : BitVec 8} (h : crcB x b = crcB y b) : x = y := by
  have := crcT_inj (crcT_inj h)
  rw [BitVec.xor_comm x, BitVec.xor_comm y] at this
  exact xor_inj this
theorem crcB_inj2 {x : BitVec 32} {b c : BitVec 8} (h : crcB x b = crcB x c) : b = c := by
  have := xor_inj (crcT_inj (crcT_inj h))
  have := congrArg (BitVec.setWidth 8) this
  simpa using this
theorem crcF_inj : ∀ (l : List (BitVec 8)) {x y : BitVec 32}, l.foldl crcB x = l.foldl crcB y → x = y
  | [], _, _, h => h
  | b :: l, _, _, h => crcB_inj (crcF_inj l h)
def crcMore (s : BitVec 32) (l : List (BitVec 8)) : BitVec 32 := ~~~ (l.foldl crcB (~~~ s))
def crcSum (l : List (BitVec 8)) : BitVec 32 := crcMore 0#32 l
/-- one byte was changed -/
theorem crcSum_set {l : List (BitVec 8)} {i : Nat} {b c : BitVec 8} (hb : l[i]? = some b) (hc : b ≠ c) : crcSum (l.set i c) ≠ crcSum l := by
  intro h
  have hi := (List.getElem?_eq_some_iff.1 hb).1
  have e1 : l = l.take i ++ b :: l.drop (i + 1) := by
    have := List.drop_eq_getElem_cons hi
    rw [(List.getElem?_eq_some_iff.1 hb).2] at this
    rw [← this, List.take_append_drop]
  have e2 : l.set i c = l.take i ++ c :: l.drop (i + 1) := by rw [List.set_eq_take_append_cons_drop, if_pos hi]
  unfold crcSum crcMore at h
  have h' := BitVec.not_inj.1 h
  rw [e2] at h'
  conv at h' => rhs; rw [e1]
  simp only [List.foldl_append, List.foldl_cons] at h'
  exact hc (crcB_inj2 (crcF_inj _ h')).symm
abbrev b8 (n : Nat) : BitVec 8 := BitVec.ofNat 8 n
def sizeN (n : Nat) : Nat := (bitLen n + 7) / 8
def beB (n size : Nat) : List (BitVec 8) := (List.range size).map fun i => b8 (n / 2 ^ (8 * (size - 1 - i)))
def numL (l : List (BitVec 8)) : Nat := l.foldl (fun n c => n * 256 + c.toNat) 0
theorem beB_succ (n s : Nat) : beB n (s + 1) = beB (n / 256) s ++ [b8 n] := by
  unfold beB
  rw [List.range_succ, List.map_append]
  congr 1
  · apply List.map_congr_left
    intro i hi
    have hi' : i < s := List.mem_range.1 hi
    rw [show 8 * (s + 1 - 1 - i) = 8 + 8 * (s - 1 - i) from by omega, Nat.pow_add, ← Nat.div_div_eq_div_mul]
  · simp
theorem beB_length (n s : Nat) : (beB n s).length = s := by simp [beB]
theorem numL_snoc (l : List (BitVec 8)) (c : BitVec 8) : numL (l ++ [c]) = numL l * 256 + c.toNat := by simp [numL]
theorem numL_beB : ∀ (s n : Nat), n < 256 ^ s → numL (beB n s) = n
  | 0, n, h => by simp at h; subst h; rfl
  | s + 1, n, h => by
    rw [beB_succ, numL_snoc, numL_beB s (n / 256) (by rw [Nat.pow_succ] at h; exact Nat.div_lt_of_lt_mul (by omega))]
    simp [b8, BitVec.toNat_ofNat]; omega
theorem numL_lt : ∀ (l : List (BitVec 8)), numL l < 256 ^ l.length := by
  intro l
  have key : ∀ (r : List (BitVec 8)), numL r.reverse < 256 ^ r.length := by
    intro r
    induction r with
    | nil => decide
    | cons c r ih =>
      rw [List.reverse_cons, numL_snoc, List.length_cons, Nat.pow_succ]
      have := c.isLt; omega
  have := key l.reverse
  simpa using this
theorem sizeN_lt {n : Nat} : n < 256 ^ sizeN n := by
  have h1 := (bitLen_spec n).1
  refine Nat.lt_of_lt_of_le h1 ?_
  rw [show (256 : Nat) = 2 ^ 8 from rfl, ← Nat.pow_mul]
  exact Nat.pow_le_pow_right (by decide) (by unfold sizeN; omega)
theorem sizeN_top {n : Nat} (h : 0 < sizeN n) : 256 ^ (sizeN n - 1) ≤ n := by
  have h0 : n ≠ 0 := by intro e; subst e; revert h; unfold sizeN bitLen; simp
  have h1 := (bitLen_spec n).2 h0
  refine Nat.le_trans ?_ h1
  rw [show (256 : Nat) = 2 ^ 8 from rfl, ← Nat.pow_mul]
  exact Nat.pow_le_pow_right (by decide) (by unfold sizeN at h ⊢; omega)
theorem sizeN_le {n : Nat} (h : n < 2 ^ 56) : sizeN n ≤ 7 := by
  unfold sizeN
  by_cases h0 : n = 0
  · subst h0; decide
  · have h1 := (bitLen_spec n).2 h0
    have : bitLen n - 1 < 56 := (Nat.pow_lt_pow_iff_right (by decide : 1 < 2)).1 (Nat.lt_of_le_of_lt h1 h)
    omega
theorem beB_zero {n s : Nat} (h : 0 < s) (h1 : 256 ^ (s - 1) ≤ n) (h2 : n < 256 ^ s) : ∃ c l, beB n s = c :: l ∧ c ≠ 0#8 := by
  obtain ⟨s, rfl⟩ : ∃ t, s = t + 1 := ⟨s - 1, by omega⟩
  refine ⟨b8 (n / 2 ^ (8 * s)), _, by unfold beB; rw [List.range_succ_eq_map, List.map_cons]; rfl, ?_⟩
  intro e
  have e1 := congrArg BitVec.toNat e
  have h3 : n / 2 ^ (8 * s) < 256 := by
    refine Nat.div_lt_of_lt_mul ?_
    rw [Nat.pow_mul]; rw [Nat.pow_succ] at h2; exact h2
  have h4 : 0 < n / 2 ^ (8 * s) := Nat.div_pos (by rw [Nat.pow_mul]; simpa using h1) (Nat.two_pow_pos _)
  simp [b8, BitVec.toNat_ofNat] at e1
  omega
def le4 (n : BitVec 32) : List (BitVec 8) := [n.setWidth 8, (n >>> 8).setWidth 8, (n >>> 16).setWidth 8, (n >>> 24).setWidth 8]
def sealL (b : List (BitVec 8)) : List (BitVec 8) := b ++ le4 (crcSum b)
def openL (b : List (BitVec 8)) : Option (List (BitVec 8)) := if 4 ≤ b.length ∧ sealL (b.take (b.length - 4)) = b then some (b.take (b.length - 4)) else none
def frameL (k : Nat) (b : List (BitVec 8)) : List (BitVec 8) := sealL ([83#8, b8 k, b8 (b.length / 2 ^ 8), b8 b.length] ++ b)
def sizeF (b : List (BitVec 8)) : Nat × Int :=
  if b.length = 0 then (0, 3) else if ¬ (((b.getD 0 0#8).toNat : Int) = 83) then (0, 2) else if b.length < 4 then (0, 3) else
  if 4096 < (b.getD 2 0#8).toNat * 256 + (b.getD 3 0#8).toNat then (0, 7) else if b.length < 4 + ((b.getD 2 0#8).toNat * 256 + (b.getD 3 0#8).toNat) + 4 then (0, 3) else
  (4 + ((b.getD 2 0#8).toNat * 256 + (b.getD 3 0#8).toNat) + 4, 0)
/-- a frame: its kind, its body, how many bytes it has, the error -/
def getF (b : List (BitVec 8)) : (Nat × List (BitVec 8)) × Nat × Int :=
  if (sizeF b).2 ≠ 0 then ((0, []), 0, (sizeF b).2) else
  match openL (b.take (sizeF b).1) with
  | none => ((0, []), 0, 4)
  | some x => (((x.getD 1 0#8).toNat, x.drop 4), (sizeF b).1, 0)
theorem sealL_length (b : List (BitVec 8)) : (sealL b).length = b.length + 4 := by simp [sealL, le4]
theorem openL_seal (b : List (BitVec 8)) : openL (sealL b) = some b := by
  unfold openL
  have h : (sealL b).take ((sealL b).length - 4) = b := by
    rw [sealL_length, Nat.add_sub_cancel]; unfold sealL; simp
  rw [h, if_pos ⟨by rw [sealL_length]; omega, rfl⟩]
theorem frameL_length (k : Nat) (b : List (BitVec 8)) : (frameL k b).length = b.length + 8 := by
  unfold frameL; rw [sealL_length]; simp
theorem len_hi {m : Nat} (h : m ≤ 4096) : (b8 (m / 2 ^ 8)).toNat * 256 + (b8 m).toNat = m := by
  simp only [b8, BitVec.toNat_ofNat]; omega
theorem sizeF_frame {k : Nat} {b r : List (BitVec 8)} (hb : b.length ≤ 4096) : sizeF (frameL k b ++ r) = (b.length + 8, 0) := by
  have hl := frameL_length k b
  have h4 : ∃ t, frameL k b ++ r = 83#8 :: b8 k :: b8 (b.length / 2 ^ 8) :: b8 b.length :: t := ⟨_, by unfold frameL sealL; rfl⟩
  obtain ⟨t, ht⟩ := h4
  have hlen : (frameL k b ++ r).length = b.length + 8 + r.length := by rw [List.length_append, hl]
  unfold sizeF
  rw [hlen]
  rw [ht]
  simp only [List.getD_cons_zero, List.getD_cons_succ]
  rw [if_neg (by omega), if_neg (by decide), if_neg (by omega), len_hi hb, if_neg (by omega), if_neg (by omega)]
  congr 1; omega
theorem getF_frame {k : Nat} {b r : List (BitVec 8)} (hk : k ≤ 255) (hb : b.length ≤ 4096) : getF (frameL k b ++ r) = ((k, b), b.length + 8, 0) := by
  unfold getF
  rw [sizeF_frame hb, if_neg (by simp)]
  have h1 : (frameL k b ++ r).take (b.length + 8) = frameL k b := by rw [← frameL_length k b]; simp
  simp only [h1]
  rw [show openL (frameL k b) = some _ from openL_seal _]
  have h2 : (b8 k).toNat = k := by simp only [b8, BitVec.toNat_ofNat]; omega
  simp [h2]
/-- a frame of which one byte was changed, neither its third nor its fourth -/
theorem getF_bad {k i : Nat} {b r : List (BitVec 8)} {c : BitVec 8} (hb : b.length ≤ 4096) (hi : i < b.length + 8) (h2 : i ≠ 2) (h3 : i ≠ 3) (hc : (frameL k b)[i]? ≠ some c) : (getF ((frameL k b).set i c ++ r)).2.2 ≠ 0 := by
  have hl := frameL_length k b
  have hlen : ((frameL k b).set i c ++ r).length = b.length + 8 + r.length := by rw [List.length_append, List.length_set, hl]
  obtain ⟨t, ht⟩ : ∃ t, frameL k b = 83#8 :: b8 k :: b8 (b.length / 2 ^ 8) :: b8 b.length :: t := ⟨_, by unfold frameL sealL; rfl⟩
  by_cases h0 : i = 0
  · subst h0
    have hne : c ≠ 83#8 := by rw [ht] at hc; simpa [eq_comm] using hc
    have hz : sizeF ((frameL k b).set 0 c ++ r) = (0, 2) := by
      have hg : ((frameL k b).set 0 c ++ r).getD 0 0#8 = c := by rw [ht]; rfl
      unfold sizeF
      rw [if_neg (by rw [hlen]; omega), hg, if_pos]
      intro h
      apply hne
      apply BitVec.eq_of_toNat_eq
      have : c.toNat = 83 := by omega
      rw [this]; rfl
    unfold getF
    rw [hz]; simp
  · have hz : sizeF ((frameL k b).set i c ++ r) = (b.length + 8, 0) := by
      have hg : ∀ j, j < 4 → j ≠ i → ((frameL k b).set i c ++ r).getD j 0#8 = (frameL k b ++ r).getD j 0#8 := by
        intro j hj hji
        rw [List.getD_eq_getElem?_getD, List.getD_eq_getElem?_getD, List.getElem?_append_left (by rw [List.length_set, hl]; omega), List.getElem?_append_left (by rw [hl]; omega), List.getElem?_set_ne (Ne.symm hji)]
      have h := sizeF_frame (k := k) (r := r) hb
      unfold sizeF at h ⊢
      rw [hg 0 (by omega) (Ne.symm h0), hg 2 (by omega) (Ne.symm h2), hg 3 (by omega) (Ne.symm h3), hlen]
      have hlen2 : (frameL k b ++ r).length = b.length + 8 + r.length := by rw [List.length_append, hl]
      rw [hlen2] at h
      exact h
    unfold getF
    rw [hz, if_neg (by simp)]
    have h1 : ((frameL k b).set i c ++ r).take (b.length + 8) = (frameL k b).set i c := by
      rw [← frameL_length k b, ← List.length_set (i := i) (a := c)]; simp
    simp only [h1]
    have ho : openL ((frameL k b).set i c) = none := by
      unfold openL
      rw [if_neg]
      rintro ⟨_, h⟩
      rw [List.length_set, hl, show b.length + 8 - 4 = b.length + 4 from by omega] at h
      have hx : frameL k b = sealL ([83#8, b8 k, b8 (b.length / 2 ^ 8), b8 b.length] ++ b) := rfl
      generalize hxs : ([83#8, b8 k, b8 (b.length / 2 ^ 8), b8 b.length] ++ b) = xs at hx
      have hxl : xs.length = b.length + 4 := by rw [← hxs]; simp
      rw [hx] at h hc
      by_cases hi4 : i < b.length + 4
      · -- the byte is one of those that the sum is of
        have hset : (sealL xs).set i c = xs.set i c ++ le4 (crcSum xs) := by
          unfold sealL; rw [List.set_append_left _ _ (by rw [hxl]; exact hi4)]
        rw [hset, List.take_append_of_le_length (by rw [List.length_set, hxl]; exact Nat.le_refl _), List.take_of_length_le (by rw [List.length_set, hxl]; exact Nat.le_refl _)] at h
        unfold sealL at h
        have h5 := List.append_cancel_left h
        have hget : xs[i]? = some (xs[i]'(by omega)) := List.getElem?_eq_getElem _
        have hcne : xs[i]'(by omega) ≠ c := by
          intro e; apply hc; unfold sealL; rw [List.getElem?_append_left (by omega), hget, e]
        have h6 : crcSum (xs.set i c) = crcSum xs := by
          unfold le4 at h5
          simp only [List.cons.injEq, and_true] at h5
          obtain ⟨q0, q1, q2, q3⟩ := h5
          have e0 := congrArg BitVec.toNat q0; have e1 := congrArg BitVec.toNat q1; have e2 := congrArg BitVec.toNat q2; have e3 := congrArg BitVec.toNat q3
          simp only [BitVec.toNat_setWidth, BitVec.toNat_ushiftRight, Nat.shiftRight_eq_div_pow] at e0 e1 e2 e3
          apply BitVec.eq_of_toNat_eq
          have l1 := (crcSum (xs.set i c)).isLt; have l2 := (crcSum xs).isLt
          omega
        exact crcSum_set hget hcne h6
      · -- the byte is one of the sum
        have ht : ((sealL xs).set i c).take (b.length + 4) = xs := by
          rw [List.take_set_of_le (by omega)]; unfold sealL; rw [← hxl]; simp
        rw [ht] at h
        apply hc
        rw [h, List.getElem?_set_self (by rw [sealL_length, hxl]; omega)]
    rw [ho]; simp
theorem crc_cell : ∀ {i : Nat}, i < 16 → ([.int .u32 0, .int .u32 498536548, .int .u32 997073096, .int .u32 651767980, .int .u32 1994146192, .int .u32 1802195444, .int .u32 1303535960, .int .u32 1342533948, .int .u32 3988292384, .int .u32 4027552580, .int .u32 3604390888, .int .u32 3412177804, .int .u32 2607071920, .int .u32 2262029012, .int .u32 2685067896, .int .u32 3183342108] : List Value)[i]? = some (.int .u32 ((crcAt i).toNat : Int))
  | 0, _ => rfl
  | 1, _ => rfl
  | 2, _ => rfl
  | 3, _ => rfl
  | 4, _ => rfl
  | 5, _ => rfl
  | 6, _ => rfl
  | 7, _ => rfl
  | 8, _ => rfl
  | 9, _ => rfl
  | 10, _ => rfl
  | 11, _ => rfl
  | 12, _ => rfl
  | 13, _ => rfl
  | 14, _ => rfl
  | 15, _ => rfl
  | _ + 16, h => absurd h (by omega)
theorem le4_snoc (n : BitVec 32) : ∀ {k : Nat}, k < 4 → (le4 n).take k ++ [(n >>> (8 * k)).setWidth 8] = (le4 n).take (k + 1)
  | 0, _ => by simp [le4]
  | 1, _ => rfl
  | 2, _ => rfl
  | 3, _ => rfl
  | _ + 4, h => absurd h (by omega)
theorem same_bytes {a b : List (BitVec 8)} {k : Nat} {x y : BitVec 8} (h : a.take k = b.take k) (hx : a[k]? = some x) (hy : b[k]? = some y) (e : (x.toNat : Int) = (y.toNat : Int)) : a.take (k + 1) = b.take (k + 1) := by
  rw [take_snoc hx, take_snoc hy, h, BitVec.eq_of_toNat_eq (by omega : x.toNat = y.toNat)]
theorem getD_of {b : List (BitVec 8)} {i : Nat} {x : BitVec 8} (h : b[i]? = some x) : b.getD i 0#8 = x := by rw [List.getD_eq_getElem?_getD, h]; rfl

theorem open_no {b : List (BitVec 8)} (h : 4 ≤ b.length) : (!decide (sealL (b.take (b.length - 4)) = b)) = !(openL b).isSome := by
  unfold openL
  by_cases h2 : sealL (b.take (b.length - 4)) = b
  · rw [if_pos ⟨h, h2⟩, decide_eq_true h2]; rfl
  · rw [if_neg (fun h3 => h2 h3.2), decide_eq_false h2]; rfl
theorem open_yes {b : List (BitVec 8)} (h : (openL b).isSome = true) : b.take (b.length - 4) = (openL b).getD [] := by
  unfold openL at h ⊢
  split
  · rfl
  · rename_i h2; rw [if_neg h2] at h; simp at h

theorem bs_32_0_  : ∀ w, (Instr.buildSlice 32 0 (List.toArray [])).run Tryz.prog w = .ok (.slice (some ⟨w.heap.size, 0, none⟩) 0 0) (w.alloc (.cells (List.toArray []) 5)) := fun _ => by kernel_rfl
theorem ei_5 : ElemInfo Tryz.prog 5 1 1 := by
  obtain ⟨i, h1, h2, h3, h4⟩ := info_parts (show (Tryz.prog.info? 5).map (fun i => (i.zero, i.size, i.bytes)) = some (some (.int .u8 0), 1, 1) by kernel_rfl)
  exact ⟨i, _, h1, h2, h3, h4, rfl⟩
theorem sz_5 : Size Tryz.prog 5 1 := fun _ => by kernel_rfl
theorem na_5 : NotAgg Tryz.prog 5 := fun _ => by kernel_rfl
theorem zero_303 : ∀ w, (zeroValue 303).run Tryz.prog w = .ok (.agg #[.int .u32 0, .int .u32 0, .int .u32 0, .int .u32 0, .int .u32 0, .int .u32 0, .int .u32 0, .int .u32 0, .int .u32 0, .int .u32 0, .int .u32 0, .int .u32 0, .int .u32 0, .int .u32 0, .int .u32 0, .int .u32 0]) w := fun _ => by kernel_rfl
theorem cv_3_145 : (Tryz.prog.underlying 3).isSome = true ∧ Tryz.prog.underlying 145 = some (.int (Tryz.prog.intKind 145)) ∧ Tryz.prog.intKind 145 = .u32 := ⟨by kernel_rfl, by kernel_rfl, by kernel_rfl⟩
theorem sz_145 : Size Tryz.prog 145 1 := fun _ => by kernel_rfl
theorem sz_303 : Size Tryz.prog 303 16 := fun _ => by kernel_rfl
theorem ag_303 : Agg Tryz.prog 303 16 := ⟨fun _ => by kernel_rfl, sz_303⟩
theorem cl_208 : Callable Tryz.prog 208 := fun _ _ => by kernel_rfl
theorem cv_5_145 : (Tryz.prog.underlying 5).isSome = true ∧ Tryz.prog.underlying 145 = some (.int (Tryz.prog.intKind 145)) ∧ Tryz.prog.intKind 145 = .u32 := ⟨by kernel_rfl, by kernel_rfl, by kernel_rfl⟩
theorem na_145 : NotAgg Tryz.prog 145 := fun _ => by kernel_rfl
theorem cl_138 : Callable Tryz.prog 138 := fun _ _ => by kernel_rfl
theorem cl_78 : Callable Tryz.prog 78 := fun _ _ => by kernel_rfl
theorem cl_22 : Callable Tryz.prog 22 := fun _ _ => by kernel_rfl
theorem cv_145_5 : (Tryz.prog.underlying 145).isSome = true ∧ Tryz.prog.underlying 5 = some (.int (Tryz.prog.intKind 5)) ∧ Tryz.prog.intKind 5 = .u8 := ⟨by kernel_rfl, by kernel_rfl, by kernel_rfl⟩
theorem bs_32_1_I (a0 : Int) : ∀ w, (Instr.buildSlice 32 1 (List.toArray [(0, .int .u8 a0)])).run Tryz.prog w = .ok (.slice (some ⟨w.heap.size, 0, none⟩) 1 1) (w.alloc (.cells (List.toArray [.int .u8 a0]) 5)) := fun _ => by kernel_rfl
theorem cl_122 : Callable Tryz.prog 122 := fun _ _ => by kernel_rfl
theorem cl_123 : Callable Tryz.prog 123 := fun _ _ => by kernel_rfl
theorem CloneByte_ok {S0 : Nat → Prop} (w : World) {A_s : Option Addr} {c_s : Nat} {s : List (BitVec 8)} (h_s : Sl tByte S0 w A_s c_s s) (hn : s.length ≤ 1000000) :
    Rets Tryz.prog 22 #[.slice A_s s.length c_s] w fun v w' => ∃ (A0 : Option Addr) (c0 : Nat), v = .slice A0 s.length c0 ∧ Hp w S0 w' [rOwn tByte 5 A0 c0 s] := by
 refine WP.enter Tryz.func22 rfl Tryz.ntmps22 rfl ?_
 have H0 := Hp.init w S0
 have hb_s := h_s.len_le
 refine rg <| as_ rfl <| dn <| WP.seq <| rg <| mv rfl <| ev (Ev.eqnil Tryz.underlying32 rfl rfl) <| dn ?_
 refine WP.cond_end rfl (fun hc4 => ?_) (fun hc4 => ?_)
 ·
  refine rg <| as_ rfl <| dn ?_
  refine WP.ret (Pst.then_ret (Pst.body_ret rfl rfl rfl ?_))
  have H1 := H0.nil tByte 5
  have hq1 : (([] : List (BitVec 8)) : List (BitVec 8)) = s := by have h1 := h_s.nil (by simpa using hc4); have h2 := h_s.cap; exact (List.eq_nil_of_length_eq_zero (by omega)).symm
  have H2 := (hq1 ▸ H1 : Hp w S0 w (rOwn tByte 5 none 0 s :: []))
  exact ⟨none, 0, by rw [← hq1] <;> rfl, H2⟩
 refine WP.skip (Pst.norm ?_)
 refine rg ?_
 refine bs0 (τ := tByte) (vs := []) rfl (by intro _; apply bs_32_0_) rfl H0 fun g1 w1 K1 => ?_
 refine mv rfl ?_
 refine ap (ys := s) K1 s0 rfl rfl (K1.a h_s).any Tryz.underlying32 ei_5 (by simp) (by first | omega | (simp; omega) | (simp; done)) rfl fun Ap1 cp1 w2 K2 => ?_
 refine as_ rfl <| dn ?_
 refine WP.ret (Pst.body_ret rfl rfl rfl ?_)
 have hq2 : ((([] : List (BitVec 8)) ++ s) : List (BitVec 8)) = s := by simp
 rw [hq2] at K2
 exact ⟨Ap1, cp1, by rw [hq2] <;> rfl, K2⟩

theorem EqualB_ok {S0 : Nat → Prop} (w : World) {A_a : Option Addr} {c_a : Nat} {a : List (BitVec 8)} (h_a : Sl tByte S0 w A_a c_a a) {A_b : Option Addr} {c_b : Nat} {b : List (BitVec 8)} (h_b : Sl tByte S0 w A_b c_b b) :
    Rets Tryz.prog 123 #[.slice A_a a.length c_a, .slice A_b b.length c_b] w fun v w' => v = .bool (decide (a = b)) ∧ Hp w S0 w' [] := by
 refine WP.enter Tryz.func123 rfl Tryz.ntmps123 rfl ?_
 have H0 := Hp.init w S0
 have hb_a := h_a.len_le
 have hb_b := h_b.len_le
 refine rg <| as_ rfl <| dn <| WP.seq <| rg <| mv rfl <| ev (Ev.len Tryz.underlying32 rfl) <| mv rfl <| ev (Ev.len Tryz.underlying32 rfl) <| ev (Ev.neq rfl rfl) ?_
 refine dn ?_
 refine WP.cond_end rfl (fun hc10 => ?_) (fun hc10 => ?_)
 ·
  replace hc10 := not_dec_t hc10
  refine rg <| as_ rfl <| dn ?_
  refine WP.ret (Pst.then_ret (Pst.body_ret rfl rfl rfl ?_))
  have hq1 : (false : Bool) = (decide (a = b)) := by symm; simp only [decide_eq_false_iff_not]; intro h; subst h; exact hc10 rfl
  exact ⟨by rw [← hq1] <;> rfl, H0⟩
 replace hc10 := not_dec_f hc10
 refine WP.skip (Pst.norm ?_)
 refine WP.seq <| rg <| mv rfl <| ev (Ev.len Tryz.underlying32 rfl) <| mv rfl <| dn <| WP.block <| Lp H0 (fun l0 rk mJ lJ wJ => ∃ (k : Nat), lJ = (13, .int .i64 ((k : Nat) : Int)) :: l0 ∧ mJ = a.length - k ∧ k ≤ a.length ∧ (a.take k = b.take k) ∧ Hp w S0 wJ rk) ⟨0, rfl, rfl, Nat.zero_le _, by rfl, H0⟩ rfl ?_
 rintro _ _ w1 ⟨k, rfl, rfl, hk, hse, K1⟩
 refine rg <| ev (Ev.lss rfl rfl) <| dn ?_
 refine WP.cond rfl (fun hc14 => ?_) (fun hc14 => ?_)
 ·
  replace hc14 := of_decide_eq_true hc14
  refine WP.skip (Pst.norm ?_)
  refine WP.seq <| WP.block <| rg <| mv rfl <| as_ rfl <| dn <| WP.draw (by kernel_rfl) (by kernel_rfl) <| WQ.ev (Ev.move rfl) rfl <| WQ.ev (Ev.move rfl) rfl ?_
  obtain ⟨x1, hx1⟩ := get_some (xs := a) (i := k) (by omega)
  refine WQ.ev (Ev.index (i := k) Tryz.underlying32 sz_5 rfl rfl rfl (lt_of_get hx1) ((K1.a h_a).some_ hx1)) rfl <| WQ.ev (Ev.loadCell na_5 rfl ((K1.a h_a).flat_cell (j := 0) hx1 rfl)) rfl ?_
  refine WQ.ev (Ev.move rfl) rfl <| WQ.ev (Ev.move rfl) rfl ?_
  obtain ⟨x2, hx2⟩ := get_some (xs := b) (i := k) (by omega)
  refine WQ.ev (Ev.index (i := k) Tryz.underlying32 sz_5 rfl rfl rfl (lt_of_get hx2) ((K1.a h_b).some_ hx2)) rfl <| WQ.ev (Ev.loadCell na_5 rfl ((K1.a h_b).flat_cell (j := 0) hx2 rfl)) rfl ?_
  refine WQ.ev (Ev.neq rfl rfl) rfl ?_
  refine WQ.done fun w2 e2 => ?_
  have K2 := K1.grow e2
  refine WP.cond_end rfl (fun hc24 => ?_) (fun hc24 => ?_)
  ·
   replace hc24 := not_dec_t hc24
   refine rg <| as_ rfl <| dn ?_
   refine WP.ret (Pst.blk_ret (Pst.then_ret (Pst.then_ret (Pst.blk_ret (Pst.then_ret (Pst.body_ret rfl rfl rfl ?_))))))
   have hq2 : (false : Bool) = (decide (a = b)) := by symm; simp only [decide_eq_false_iff_not]; intro h; subst h; rw [hx1] at hx2; cases hx2; exact hc24 rfl
   exact ⟨by rw [← hq2] <;> rfl, K2⟩
  replace hc24 := not_dec_f hc24
  refine WP.skip (Pst.blk_norm (Pst.norm ?_))
  refine rge <| ev (Ev.add rfl rfl (I64.mk (by omega) (by omega))) <| mv rfl <| dne ?_
  exact Pst.ag ⟨(k + 1), rfl, rfl, by omega, by exact same_bytes hse hx1 hx2 (by simpa using hc24), K2⟩ rfl (by omega)
 replace hc14 := of_decide_eq_false hc14
 refine WP.exit (Pst.then_exit (Pst.then_exit (Pst.blk_eq (Pst.norm ?_))))
 refine rg <| as_ rfl <| dn ?_
 refine WP.ret (Pst.body_ret rfl rfl rfl ?_)
 have hq3 : (true : Bool) = (decide (a = b)) := by symm; simp only [decide_eq_true_eq]; rw [List.take_of_length_le (by omega), List.take_of_length_le (by omega)] at hse; exact hse
 exact ⟨by rw [← hq3] <;> rfl, K1⟩

theorem Nib_ok {S0 : Nat → Prop} (w : World)  :
    Rets Tryz.prog 208 #[] w fun v w' => v = .agg #[.int .u32 0, .int .u32 498536548, .int .u32 997073096, .int .u32 651767980, .int .u32 1994146192, .int .u32 1802195444, .int .u32 1303535960, .int .u32 1342533948, .int .u32 3988292384, .int .u32 4027552580, .int .u32 3604390888, .int .u32 3412177804, .int .u32 2607071920, .int .u32 2262029012, .int .u32 2685067896, .int .u32 3183342108] ∧ Hp w S0 w' [] := by
 refine WP.enter Tryz.func208 rfl Tryz.ntmps208 rfl ?_
 have H0 := Hp.init w S0
 refine rg ?_
 refine al zero_303 rfl H0 fun g1 w1 K1 => ?_
 refine dn <| rg ?_
 refine al zero_303 rfl K1 fun g2 w2 K2 => ?_
 refine dn <| WP.seq <| rg <| mv rfl <| dn <| WP.block ?_
 refine Rn 17 (RN.s ?_)
 refine rg <| ev (Ev.lss rfl rfl) <| dn <| cT rfl ?_
 refine WP.skip (Pst.norm ?_)
 refine WP.seq <| WP.block <| rg <| mv rfl <| as_ rfl <| dn <| rg <| mv rfl <| ev (Ev.conv_32 (m := 0) cv_3_145.1 cv_3_145.2.1 cv_3_145.2.2 rfl) <| as_ rfl <| dn ?_
 refine WP.seq <| rg <| mv rfl <| dn <| WP.block ?_
 refine Rn 5 (RN.s ?_)
 refine rg <| ev (Ev.lss rfl rfl) <| dn <| cT rfl ?_
 refine WP.skip (Pst.norm ?_)
 refine WP.seq <| WP.block <| rge <| mv rfl <| ev (Ev.shr32 (a := 0#32) (c := 1) rfl rfl (by first | omega | (simp; done) | decide)) <| mv rfl <| ev (Ev.and32 (a := 0#32) (b := 1#32) rfl rfl) ?_
 refine ev (Ev.neg32 (a := 0#32) rfl) <| ev (Ev.and32 (a := 0#32) (b := 3988292384#32) rfl rfl) <| ev (Ev.xor32 (a := 0#32) (b := 0#32) rfl rfl) <| as_ rfl <| dne ?_
 refine Pst.blk_norm (Pst.norm ?_)
 refine rge <| ev (Ev.add rfl rfl (I64.mk (by first | omega | (simp; done) | decide) (by first | omega | (simp; done) | decide))) <| mv rfl <| dne ?_
 refine Pst.rnd (RN.s ?_)
 refine rg <| ev (Ev.lss rfl rfl) <| dn <| cT rfl ?_
 refine WP.skip (Pst.norm ?_)
 refine WP.seq <| WP.block <| rge <| mv rfl <| ev (Ev.shr32 (a := 0#32) (c := 1) rfl rfl (by first | omega | (simp; done) | decide)) <| mv rfl <| ev (Ev.and32 (a := 0#32) (b := 1#32) rfl rfl) ?_
 refine ev (Ev.neg32 (a := 0#32) rfl) <| ev (Ev.and32 (a := 0#32) (b := 3988292384#32) rfl rfl) <| ev (Ev.xor32 (a := 0#32) (b := 0#32) rfl rfl) <| as_ rfl <| dne ?_
 refine Pst.blk_norm (Pst.norm ?_)
 refine rge <| ev (Ev.add rfl rfl (I64.mk (by first | omega | (simp; done) | decide) (by first | omega | (simp; done) | decide))) <| mv rfl <| dne ?_
 refine Pst.rnd (RN.s ?_)
 refine rg <| ev (Ev.lss rfl rfl) <| dn <| cT rfl ?_
 refine WP.skip (Pst.norm ?_)
 refine WP.seq <| WP.block <| rge <| mv rfl <| ev (Ev.shr32 (a := 0#32) (c := 1) rfl rfl (by first | omega | (simp; done) | decide)) <| mv rfl <| ev (Ev.and32 (a := 0#32) (b := 1#32) rfl rfl) ?_
 refine ev (Ev.neg32 (a := 0#32) rfl) <| ev (Ev.and32 (a := 0#32) (b := 3988292384#32) rfl rfl) <| ev (Ev.xor32 (a := 0#32) (b := 0#32) rfl rfl) <| as_ rfl <| dne ?_
 refine Pst.blk_norm (Pst.norm ?_)
 refine rge <| ev (Ev.add rfl rfl (I64.mk (by first | omega | (simp; done) | decide) (by first | omega | (simp; done) | decide))) <| mv rfl <| dne ?_
 refine Pst.rnd (RN.s ?_)
 refine rg <| ev (Ev.lss rfl rfl) <| dn <| cT rfl ?_
 refine WP.skip (Pst.norm ?_)
 refine WP.seq <| WP.block <| rge <| mv rfl <| ev (Ev.shr32 (a := 0#32) (c := 1) rfl rfl (by first | omega | (simp; done) | decide)) <| mv rfl <| ev (Ev.and32 (a := 0#32) (b := 1#32) rfl rfl) ?_
 refine ev (Ev.neg32 (a := 0#32) rfl) <| ev (Ev.and32 (a := 0#32) (b := 3988292384#32) rfl rfl) <| ev (Ev.xor32 (a := 0#32) (b := 0#32) rfl rfl) <| as_ rfl <| dne ?_
 refine Pst.blk_norm (Pst.norm ?_)
 refine rge <| ev (Ev.add rfl rfl (I64.mk (by first | omega | (simp; done) | decide) (by first | omega | (simp; done) | decide))) <| mv rfl <| dne ?_
 refine Pst.rnd (RN.s ?_)
 refine rg <| ev (Ev.lss rfl rfl) <| dn <| cF rfl ?_
 refine WP.exit (Pst.then_exit (Pst.then_exit (Pst.blk_eq (Pst.norm ?_))))
 refine rge <| mv rfl <| mv rfl <| ev (Ev.idxP (i := 0) Tryz.underlying303 sz_145 rfl rfl rfl (by omega)) ?_
 refine stc rfl rfl rfl sz_145 K2 s0 rfl fun w3 K3 => ?_
 refine dne ?_
 refine Pst.blk_norm (Pst.norm ?_)
 refine rge <| ev (Ev.add rfl rfl (I64.mk (by first | omega | (simp; done) | decide) (by first | omega | (simp; done) | decide))) <| mv rfl <| dne ?_
 refine Pst.rnd (RN.s ?_)
 refine rg <| ev (Ev.lss rfl rfl) <| dn <| cT rfl ?_
 refine WP.skip (Pst.norm ?_)
 refine WP.seq <| WP.block <| rg <| mv rfl <| as_ rfl <| dn <| rg <| mv rfl <| ev (Ev.conv_32 (m := 1) cv_3_145.1 cv_3_145.2.1 cv_3_145.2.2 rfl) <| as_ rfl <| dn ?_
 refine WP.seq <| rg <| mv rfl <| dn <| WP.block ?_
 refine Rn 5 (RN.s ?_)
 refine rg <| ev (Ev.lss rfl rfl) <| dn <| cT rfl ?_
 refine WP.skip (Pst.norm ?_)
 refine WP.seq <| WP.block <| rge <| mv rfl <| ev (Ev.shr32 (a := 1#32) (c := 1) rfl rfl (by first | omega | (simp; done) | decide)) <| mv rfl <| ev (Ev.and32 (a := 1#32) (b := 1#32) rfl rfl) ?_
 refine ev (Ev.neg32 (a := 1#32) rfl) <| ev (Ev.and32 (a := 4294967295#32) (b := 3988292384#32) rfl rfl) <| ev (Ev.xor32 (a := 0#32) (b := 3988292384#32) rfl rfl) ?_
 refine as_ rfl <| dne ?_
 refine Pst.blk_norm (Pst.norm ?_)
 refine rge <| ev (Ev.add rfl rfl (I64.mk (by first | omega | (simp; done) | decide) (by first | omega | (simp; done) | decide))) <| mv rfl <| dne ?_
 refine Pst.rnd (RN.s ?_)
 refine rg <| ev (Ev.lss rfl rfl) <| dn <| cT rfl ?_
 refine WP.skip (Pst.norm ?_)
 refine WP.seq <| WP.block <| rge <| mv rfl <| ev (Ev.shr32 (a := 3988292384#32) (c := 1) rfl rfl (by first | omega | (simp; done) | decide)) <| mv rfl <| ev (Ev.and32 (a := 3988292384#32) (b := 1#32) rfl rfl) ?_
 refine ev (Ev.neg32 (a := 0#32) rfl) <| ev (Ev.and32 (a := 0#32) (b := 3988292384#32) rfl rfl) <| ev (Ev.xor32 (a := 1994146192#32) (b := 0#32) rfl rfl) <| as_ rfl ?_
 refine dne ?_
 refine Pst.blk_norm (Pst.norm ?_)
 refine rge <| ev (Ev.add rfl rfl (I64.mk (by first | omega | (simp; done) | decide) (by first | omega | (simp; done) | decide))) <| mv rfl <| dne ?_
 refine Pst.rnd (RN.s ?_)
 refine rg <| ev (Ev.lss rfl rfl) <| dn <| cT rfl ?_
 refine WP.skip (Pst.norm ?_)
 refine WP.seq <| WP.block <| rge <| mv rfl <| ev (Ev.shr32 (a := 1994146192#32) (c := 1) rfl rfl (by first | omega | (simp; done) | decide)) <| mv rfl <| ev (Ev.and32 (a := 1994146192#32) (b := 1#32) rfl rfl) ?_
 refine ev (Ev.neg32 (a := 0#32) rfl) <| ev (Ev.and32 (a := 0#32) (b := 3988292384#32) rfl rfl) <| ev (Ev.xor32 (a := 997073096#32) (b := 0#32) rfl rfl) <| as_ rfl ?_
 refine dne ?_
 refine Pst.blk_norm (Pst.norm ?_)
 refine rge <| ev (Ev.add rfl rfl (I64.mk (by first | omega | (simp; done) | decide) (by first | omega | (simp; done) | decide))) <| mv rfl <| dne ?_
 refine Pst.rnd (RN.s ?_)
 refine rg <| ev (Ev.lss rfl rfl) <| dn <| cT rfl ?_
 refine WP.skip (Pst.norm ?_)
 refine WP.seq <| WP.block <| rge <| mv rfl <| ev (Ev.shr32 (a := 997073096#32) (c := 1) rfl rfl (by first | omega | (simp; done) | decide)) <| mv rfl <| ev (Ev.and32 (a := 997073096#32) (b := 1#32) rfl rfl) ?_
 refine ev (Ev.neg32 (a := 0#32) rfl) <| ev (Ev.and32 (a := 0#32) (b := 3988292384#32) rfl rfl) <| ev (Ev.xor32 (a := 498536548#32) (b := 0#32) rfl rfl) <| as_ rfl ?_
 refine dne ?_
 refine Pst.blk_norm (Pst.norm ?_)
 refine rge <| ev (Ev.add rfl rfl (I64.mk (by first | omega | (simp; done) | decide) (by first | omega | (simp; done) | decide))) <| mv rfl <| dne ?_
 refine Pst.rnd (RN.s ?_)
 refine rg <| ev (Ev.lss rfl rfl) <| dn <| cF rfl ?_
 refine WP.exit (Pst.then_exit (Pst.then_exit (Pst.blk_eq (Pst.norm ?_))))
 refine rge <| mv rfl <| mv rfl <| ev (Ev.idxP (i := 1) Tryz.underlying303 sz_145 rfl rfl rfl (by omega)) ?_
 refine stc rfl rfl rfl sz_145 K3 s0 rfl fun w4 K4 => ?_
 refine dne ?_
 refine Pst.blk_norm (Pst.norm ?_)
 refine rge <| ev (Ev.add rfl rfl (I64.mk (by first | omega | (simp; done) | decide) (by first | omega | (simp; done) | decide))) <| mv rfl <| dne ?_
 refine Pst.rnd (RN.s ?_)
 refine rg <| ev (Ev.lss rfl rfl) <| dn <| cT rfl ?_
 refine WP.skip (Pst.norm ?_)
 refine WP.seq <| WP.block <| rg <| mv rfl <| as_ rfl <| dn <| rg <| mv rfl <| ev (Ev.conv_32 (m := 2) cv_3_145.1 cv_3_145.2.1 cv_3_145.2.2 rfl) <| as_ rfl <| dn ?_
 refine WP.seq <| rg <| mv rfl <| dn <| WP.block ?_
 refine Rn 5 (RN.s ?_)
 refine rg <| ev (Ev.lss rfl rfl) <| dn <| cT rfl ?_
 refine WP.skip (Pst.norm ?_)
 refine WP.seq <| WP.block <| rge <| mv rfl <| ev (Ev.shr32 (a := 2#32) (c := 1) rfl rfl (by first | omega | (simp; done) | decide)) <| mv rfl <| ev (Ev.and32 (a := 2#32) (b := 1#32) rfl rfl) ?_
 refine ev (Ev.neg32 (a := 0#32) rfl) <| ev (Ev.and32 (a := 0#32) (b := 3988292384#32) rfl rfl) <| ev (Ev.xor32 (a := 1#32) (b := 0#32) rfl rfl) <| as_ rfl <| dne ?_
 refine Pst.blk_norm (Pst.norm ?_)
 refine rge <| ev (Ev.add rfl rfl (I64.mk (by first | omega | (simp; done) | decide) (by first | omega | (simp; done) | decide))) <| mv rfl <| dne ?_
 refine Pst.rnd (RN.s ?_)
 refine rg <| ev (Ev.lss rfl rfl) <| dn <| cT rfl ?_
 refine WP.skip (Pst.norm ?_)
 refine WP.seq <| WP.block <| rge <| mv rfl <| ev (Ev.shr32 (a := 1#32) (c := 1) rfl rfl (by first | omega | (simp; done) | decide)) <| mv rfl <| ev (Ev.and32 (a := 1#32) (b := 1#32) rfl rfl) ?_
 refine ev (Ev.neg32 (a := 1#32) rfl) <| ev (Ev.and32 (a := 4294967295#32) (b := 3988292384#32) rfl rfl) <| ev (Ev.xor32 (a := 0#32) (b := 3988292384#32) rfl rfl) ?_
 refine as_ rfl <| dne ?_
 refine Pst.blk_norm (Pst.norm ?_)
 refine rge <| ev (Ev.add rfl rfl (I64.mk (by first | omega | (simp; done) | decide) (by first | omega | (simp; done) | decide))) <| mv rfl <| dne ?_
 refine Pst.rnd (RN.s ?_)
 refine rg <| ev (Ev.lss rfl rfl) <| dn <| cT rfl ?_
 refine WP.skip (Pst.norm ?_)
 refine WP.seq <| WP.block <| rge <| mv rfl <| ev (Ev.shr32 (a := 3988292384#32) (c := 1) rfl rfl (by first | omega | (simp; done) | decide)) <| mv rfl <| ev (Ev.and32 (a := 3988292384#32) (b := 1#32) rfl rfl) ?_
 refine ev (Ev.neg32 (a := 0#32) rfl) <| ev (Ev.and32 (a := 0#32) (b := 3988292384#32) rfl rfl) <| ev (Ev.xor32 (a := 1994146192#32) (b := 0#32) rfl rfl) <| as_ rfl ?_
 refine dne ?_
 refine Pst.blk_norm (Pst.norm ?_)
 refine rge <| ev (Ev.add rfl rfl (I64.mk (by first | omega | (simp; done) | decide) (by first | omega | (simp; done) | decide))) <| mv rfl <| dne ?_
 refine Pst.rnd (RN.s ?_)
 refine rg <| ev (Ev.lss rfl rfl) <| dn <| cT rfl ?_
 refine WP.skip (Pst.norm ?_)
 refine WP.seq <| WP.block <| rge <| mv rfl <| ev (Ev.shr32 (a := 1994146192#32) (c := 1) rfl rfl (by first | omega | (simp; done) | decide)) <| mv rfl <| ev (Ev.and32 (a := 1994146192#32) (b := 1#32) rfl rfl) ?_
 refine ev (Ev.neg32 (a := 0#32) rfl) <| ev (Ev.and32 (a := 0#32) (b := 3988292384#32) rfl rfl) <| ev (Ev.xor32 (a := 997073096#32) (b := 0#32) rfl rfl) <| as_ rfl ?_
 refine dne ?_
 refine Pst.blk_norm (Pst.norm ?_)
 refine rge <| ev (Ev.add rfl rfl (I64.mk (by first | omega | (simp; done) | decide) (by first | omega | (simp; done) | decide))) <| mv rfl <| dne ?_
 refine Pst.rnd (RN.s ?_)
 refine rg <| ev (Ev.lss rfl rfl) <| dn <| cF rfl ?_
 refine WP.exit (Pst.then_exit (Pst.then_exit (Pst.blk_eq (Pst.norm ?_))))
 refine rge <| mv rfl <| mv rfl <| ev (Ev.idxP (i := 2) Tryz.underlying303 sz_145 rfl rfl rfl (by omega)) ?_
 refine stc rfl rfl rfl sz_145 K4 s0 rfl fun w5 K5 => ?_
 refine dne ?_
 refine Pst.blk_norm (Pst.norm ?_)
 refine rge <| ev (Ev.add rfl rfl (I64.mk (by first | omega | (simp; done) | decide) (by first | omega | (simp; done) | decide))) <| mv rfl <| dne ?_
 refine Pst.rnd (RN.s ?_)
 refine rg <| ev (Ev.lss rfl rfl) <| dn <| cT rfl ?_
 refine WP.skip (Pst.norm ?_)
 refine WP.seq <| WP.block <| rg <| mv rfl <| as_ rfl <| dn <| rg <| mv rfl <| ev (Ev.conv_32 (m := 3) cv_3_145.1 cv_3_145.2.1 cv_3_145.2.2 rfl) <| as_ rfl <| dn ?_
 refine WP.seq <| rg <| mv rfl <| dn <| WP.block ?_
 refine Rn 5 (RN.s ?_)
 refine rg <| ev (Ev.lss rfl rfl) <| dn <| cT rfl ?_
 refine WP.skip (Pst.norm ?_)
 refine WP.seq <| WP.block <| rge <| mv rfl <| ev (Ev.shr32 (a := 3#32) (c := 1) rfl rfl (by first | omega | (simp; done) | decide)) <| mv rfl <| ev (Ev.and32 (a := 3#32) (b := 1#32) rfl rfl) ?_
 refine ev (Ev.neg32 (a := 1#32) rfl) <| ev (Ev.and32 (a := 4294967295#32) (b := 3988292384#32) rfl rfl) <| ev (Ev.xor32 (a := 1#32) (b := 3988292384#32) rfl rfl) ?_
 refine as_ rfl <| dne ?_
 refine Pst.blk_norm (Pst.norm ?_)
 refine rge <| ev (Ev.add rfl rfl (I64.mk (by first | omega | (simp; done) | decide) (by first | omega | (simp; done) | decide))) <| mv rfl <| dne ?_
 refine Pst.rnd (RN.s ?_)
 refine rg <| ev (Ev.lss rfl rfl) <| dn <| cT rfl ?_
 refine WP.skip (Pst.norm ?_)
 refine WP.seq <| WP.block <| rge <| mv rfl <| ev (Ev.shr32 (a := 3988292385#32) (c := 1) rfl rfl (by first | omega | (simp; done) | decide)) <| mv rfl <| ev (Ev.and32 (a := 3988292385#32) (b := 1#32) rfl rfl) ?_
 refine ev (Ev.neg32 (a := 1#32) rfl) <| ev (Ev.and32 (a := 4294967295#32) (b := 3988292384#32) rfl rfl) <| ev (Ev.xor32 (a := 1994146192#32) (b := 3988292384#32) rfl rfl) ?_
 refine as_ rfl <| dne ?_
 refine Pst.blk_norm (Pst.norm ?_)
 refine rge <| ev (Ev.add rfl rfl (I64.mk (by first | omega | (simp; done) | decide) (by first | omega | (simp; done) | decide))) <| mv rfl <| dne ?_
 refine Pst.rnd (RN.s ?_)
 refine rg <| ev (Ev.lss rfl rfl) <| dn <| cT rfl ?_
 refine WP.skip (Pst.norm ?_)
 refine WP.seq <| WP.block <| rge <| mv rfl <| ev (Ev.shr32 (a := 2607071920#32) (c := 1) rfl rfl (by first | omega | (simp; done) | decide)) <| mv rfl <| ev (Ev.and32 (a := 2607071920#32) (b := 1#32) rfl rfl) ?_
 refine ev (Ev.neg32 (a := 0#32) rfl) <| ev (Ev.and32 (a := 0#32) (b := 3988292384#32) rfl rfl) <| ev (Ev.xor32 (a := 1303535960#32) (b := 0#32) rfl rfl) <| as_ rfl ?_
 refine dne ?_
 refine Pst.blk_norm (Pst.norm ?_)
 refine rge <| ev (Ev.add rfl rfl (I64.mk (by first | omega | (simp; done) | decide) (by first | omega | (simp; done) | decide))) <| mv rfl <| dne ?_
 refine Pst.rnd (RN.s ?_)
 refine rg <| ev (Ev.lss rfl rfl) <| dn <| cT rfl ?_
 refine WP.skip (Pst.norm ?_)
 refine WP.seq <| WP.block <| rge <| mv rfl <| ev (Ev.shr32 (a := 1303535960#32) (c := 1) rfl rfl (by first | omega | (simp; done) | decide)) <| mv rfl <| ev (Ev.and32 (a := 1303535960#32) (b := 1#32) rfl rfl) ?_
 refine ev (Ev.neg32 (a := 0#32) rfl) <| ev (Ev.and32 (a := 0#32) (b := 3988292384#32) rfl rfl) <| ev (Ev.xor32 (a := 651767980#32) (b := 0#32) rfl rfl) <| as_ rfl ?_
 refine dne ?_
 refine Pst.blk_norm (Pst.norm ?_)
 refine rge <| ev (Ev.add rfl rfl (I64.mk (by first | omega | (simp; done) | decide) (by first | omega | (simp; done) | decide))) <| mv rfl <| dne ?_
 refine Pst.rnd (RN.s ?_)
 refine rg <| ev (Ev.lss rfl rfl) <| dn <| cF rfl ?_
 refine WP.exit (Pst.then_exit (Pst.then_exit (Pst.blk_eq (Pst.norm ?_))))
 refine rge <| mv rfl <| mv rfl <| ev (Ev.idxP (i := 3) Tryz.underlying303 sz_145 rfl rfl rfl (by omega)) ?_
 refine stc rfl rfl rfl sz_145 K5 s0 rfl fun w6 K6 => ?_
 refine dne ?_
 refine Pst.blk_norm (Pst.norm ?_)
 refine rge <| ev (Ev.add rfl rfl (I64.mk (by first | omega | (simp; done) | decide) (by first | omega | (simp; done) | decide))) <| mv rfl <| dne ?_
 refine Pst.rnd (RN.s ?_)
 refine rg <| ev (Ev.lss rfl rfl) <| dn <| cT rfl ?_
 refine WP.skip (Pst.norm ?_)
 refine WP.seq <| WP.block <| rg <| mv rfl <| as_ rfl <| dn <| rg <| mv rfl <| ev (Ev.conv_32 (m := 4) cv_3_145.1 cv_3_145.2.1 cv_3_145.2.2 rfl) <| as_ rfl <| dn ?_
 refine WP.seq <| rg <| mv rfl <| dn <| WP.block ?_
 refine Rn 5 (RN.s ?_)
 refine rg <| ev (Ev.lss rfl rfl) <| dn <| cT rfl ?_
 refine WP.skip (Pst.norm ?_)
 refine WP.seq <| WP.block <| rge <| mv rfl <| ev (Ev.shr32 (a := 4#32) (c := 1) rfl rfl (by first | omega | (simp; done) | decide)) <| mv rfl <| ev (Ev.and32 (a := 4#32) (b := 1#32) rfl rfl) ?_
 refine ev (Ev.neg32 (a := 0#32) rfl) <| ev (Ev.and32 (a := 0#32) (b := 3988292384#32) rfl rfl) <| ev (Ev.xor32 (a := 2#32) (b := 0#32) rfl rfl) <| as_ rfl <| dne ?_
 refine Pst.blk_norm (Pst.norm ?_)
 refine rge <| ev (Ev.add rfl rfl (I64.mk (by first | omega | (simp; done) | decide) (by first | omega | (simp; done) | decide))) <| mv rfl <| dne ?_
 refine Pst.rnd (RN.s ?_)
 refine rg <| ev (Ev.lss rfl rfl) <| dn <| cT rfl ?_
 refine WP.skip (Pst.norm ?_)
 refine WP.seq <| WP.block <| rge <| mv rfl <| ev (Ev.shr32 (a := 2#32) (c := 1) rfl rfl (by first | omega | (simp; done) | decide)) <| mv rfl <| ev (Ev.and32 (a := 2#32) (b := 1#32) rfl rfl) ?_
 refine ev (Ev.neg32 (a := 0#32) rfl) <| ev (Ev.and32 (a := 0#32) (b := 3988292384#32) rfl rfl) <| ev (Ev.xor32 (a := 1#32) (b := 0#32) rfl rfl) <| as_ rfl <| dne ?_
 refine Pst.blk_norm (Pst.norm ?_)
 refine rge <| ev (Ev.add rfl rfl (I64.mk (by first | omega | (simp; done) | decide) (by first | omega | (simp; done) | decide))) <| mv rfl <| dne ?_
 refine Pst.rnd (RN.s ?_)
 refine rg <| ev (Ev.lss rfl rfl) <| dn <| cT rfl ?_
 refine WP.skip (Pst.norm ?_)
 refine WP.seq <| WP.block <| rge <| mv rfl <| ev (Ev.shr32 (a := 1#32) (c := 1) rfl rfl (by first | omega | (simp; done) | decide)) <| mv rfl <| ev (Ev.and32 (a := 1#32) (b := 1#32) rfl rfl) ?_
 refine ev (Ev.neg32 (a := 1#32) rfl) <| ev (Ev.and32 (a := 4294967295#32) (b := 3988292384#32) rfl rfl) <| ev (Ev.xor32 (a := 0#32) (b := 3988292384#32) rfl rfl) ?_
 refine as_ rfl <| dne ?_
 refine Pst.blk_norm (Pst.norm ?_)
 refine rge <| ev (Ev.add rfl rfl (I64.mk (by first | omega | (simp; done) | decide) (by first | omega | (simp; done) | decide))) <| mv rfl <| dne ?_
 refine Pst.rnd (RN.s ?_)
 refine rg <| ev (Ev.lss rfl rfl) <| dn <| cT rfl ?_
 refine WP.skip (Pst.norm ?_)
 refine WP.seq <| WP.block <| rge <| mv rfl <| ev (Ev.shr32 (a := 3988292384#32) (c := 1) rfl rfl (by first | omega | (simp; done) | decide)) <| mv rfl <| ev (Ev.and32 (a := 3988292384#32) (b := 1#32) rfl rfl) ?_
 refine ev (Ev.neg32 (a := 0#32) rfl) <| ev (Ev.and32 (a := 0#32) (b := 3988292384#32) rfl rfl) <| ev (Ev.xor32 (a := 1994146192#32) (b := 0#32) rfl rfl) <| as_ rfl ?_
 refine dne ?_
 refine Pst.blk_norm (Pst.norm ?_)
 refine rge <| ev (Ev.add rfl rfl (I64.mk (by first | omega | (simp; done) | decide) (by first | omega | (simp; done) | decide))) <| mv rfl <| dne ?_
 refine Pst.rnd (RN.s ?_)
 refine rg <| ev (Ev.lss rfl rfl) <| dn <| cF rfl ?_
 refine WP.exit (Pst.then_exit (Pst.then_exit (Pst.blk_eq (Pst.norm ?_))))
 refine rge <| mv rfl <| mv rfl <| ev (Ev.idxP (i := 4) Tryz.underlying303 sz_145 rfl rfl rfl (by omega)) ?_
 refine stc rfl rfl rfl sz_145 K6 s0 rfl fun w7 K7 => ?_
 refine dne ?_
 refine Pst.blk_norm (Pst.norm ?_)
 refine rge <| ev (Ev.add rfl rfl (I64.mk (by first | omega | (simp; done) | decide) (by first | omega | (simp; done) | decide))) <| mv rfl <| dne ?_
 refine Pst.rnd (RN.s ?_)
 refine rg <| ev (Ev.lss rfl rfl) <| dn <| cT rfl ?_
 refine WP.skip (Pst.norm ?_)
 refine WP.seq <| WP.block <| rg <| mv rfl <| as_ rfl <| dn <| rg <| mv rfl <| ev (Ev.conv_32 (m := 5) cv_3_145.1 cv_3_145.2.1 cv_3_145.2.2 rfl) <| as_ rfl <| dn ?_
 refine WP.seq <| rg <| mv rfl <| dn <| WP.block ?_
 refine Rn 5 (RN.s ?_)
 refine rg <| ev (Ev.lss rfl rfl) <| dn <| cT rfl ?_
 refine WP.skip (Pst.norm ?_)
 refine WP.seq <| WP.block <| rge <| mv rfl <| ev (Ev.shr32 (a := 5#32) (c := 1) rfl rfl (by first | omega | (simp; done) | decide)) <| mv rfl <| ev (Ev.and32 (a := 5#32) (b := 1#32) rfl rfl) ?_
 refine ev (Ev.neg32 (a := 1#32) rfl) <| ev (Ev.and32 (a := 4294967295#32) (b := 3988292384#32) rfl rfl) <| ev (Ev.xor32 (a := 2#32) (b := 3988292384#32) rfl rfl) ?_
 refine as_ rfl <| dne ?_
 refine Pst.blk_norm (Pst.norm ?_)
 refine rge <| ev (Ev.add rfl rfl (I64.mk (by first | omega | (simp; done) | decide) (by first | omega | (simp; done) | decide))) <| mv rfl <| dne ?_
 refine Pst.rnd (RN.s ?_)
 refine rg <| ev (Ev.lss rfl rfl) <| dn <| cT rfl ?_
 refine WP.skip (Pst.norm ?_)
 refine WP.seq <| WP.block <| rge <| mv rfl <| ev (Ev.shr32 (a := 3988292386#32) (c := 1) rfl rfl (by first | omega | (simp; done) | decide)) <| mv rfl <| ev (Ev.and32 (a := 3988292386#32) (b := 1#32) rfl rfl) ?_
 refine ev (Ev.neg32 (a := 0#32) rfl) <| ev (Ev.and32 (a := 0#32) (b := 3988292384#32) rfl rfl) <| ev (Ev.xor32 (a := 1994146193#32) (b := 0#32) rfl rfl) <| as_ rfl ?_
 refine dne ?_
 refine Pst.blk_norm (Pst.norm ?_)
 refine rge <| ev (Ev.add rfl rfl (I64.mk (by first | omega | (simp; done) | decide) (by first | omega | (simp; done) | decide))) <| mv rfl <| dne ?_
 refine Pst.rnd (RN.s ?_)
 refine rg <| ev (Ev.lss rfl rfl) <| dn <| cT rfl ?_
 refine WP.skip (Pst.norm ?_)
 refine WP.seq <| WP.block <| rge <| mv rfl <| ev (Ev.shr32 (a := 1994146193#32) (c := 1) rfl rfl (by first | omega | (simp; done) | decide)) <| mv rfl <| ev (Ev.and32 (a := 1994146193#32) (b := 1#32) rfl rfl) ?_
 refine ev (Ev.neg32 (a := 1#32) rfl) <| ev (Ev.and32 (a := 4294967295#32) (b := 3988292384#32) rfl rfl) <| ev (Ev.xor32 (a := 997073096#32) (b := 3988292384#32) rfl rfl) ?_
 refine as_ rfl <| dne ?_
 refine Pst.blk_norm (Pst.norm ?_)
 refine rge <| ev (Ev.add rfl rfl (I64.mk (by first | omega | (simp; done) | decide) (by first | omega | (simp; done) | decide))) <| mv rfl <| dne ?_
 refine Pst.rnd (RN.s ?_)
 refine rg <| ev (Ev.lss rfl rfl) <| dn <| cT rfl ?_
 refine WP.skip (Pst.norm ?_)
 refine WP.seq <| WP.block <| rge <| mv rfl <| ev (Ev.shr32 (a := 3604390888#32) (c := 1) rfl rfl (by first | omega | (simp; done) | decide)) <| mv rfl <| ev (Ev.and32 (a := 3604390888#32) (b := 1#32) rfl rfl) ?_
 refine ev (Ev.neg32 (a := 0#32) rfl) <| ev (Ev.and32 (a := 0#32) (b := 3988292384#32) rfl rfl) <| ev (Ev.xor32 (a := 1802195444#32) (b := 0#32) rfl rfl) <| as_ rfl ?_
 refine dne ?_
 refine Pst.blk_norm (Pst.norm ?_)
 refine rge <| ev (Ev.add rfl rfl (I64.mk (by first | omega | (simp; done) | decide) (by first | omega | (simp; done) | decide))) <| mv rfl <| dne ?_
 refine Pst.rnd (RN.s ?_)
 refine rg <| ev (Ev.lss rfl rfl) <| dn <| cF rfl ?_
 refine WP.exit (Pst.then_exit (Pst.then_exit (Pst.blk_eq (Pst.norm ?_))))
 refine rge <| mv rfl <| mv rfl <| ev (Ev.idxP (i := 5) Tryz.underlying303 sz_145 rfl rfl rfl (by omega)) ?_
 refine stc rfl rfl rfl sz_145 K7 s0 rfl fun w8 K8 => ?_
 refine dne ?_
 refine Pst.blk_norm (Pst.norm ?_)
 refine rge <| ev (Ev.add rfl rfl (I64.mk (by first | omega | (simp; done) | decide) (by first | omega | (simp; done) | decide))) <| mv rfl <| dne ?_
 refine Pst.rnd (RN.s ?_)
 refine rg <| ev (Ev.lss rfl rfl) <| dn <| cT rfl ?_
 refine WP.skip (Pst.norm ?_)
 refine WP.seq <| WP.block <| rg <| mv rfl <| as_ rfl <| dn <| rg <| mv rfl <| ev (Ev.conv_32 (m := 6) cv_3_145.1 cv_3_145.2.1 cv_3_145.2.2 rfl) <| as_ rfl <| dn ?_
 refine WP.seq <| rg <| mv rfl <| dn <| WP.block ?_
 refine Rn 5 (RN.s ?_)
 refine rg <| ev (Ev.lss rfl rfl) <| dn <| cT rfl ?_
 refine WP.skip (Pst.norm ?_)
 refine WP.seq <| WP.block <| rge <| mv rfl <| ev (Ev.shr32 (a := 6#32) (c := 1) rfl rfl (by first | omega | (simp; done) | decide)) <| mv rfl <| ev (Ev.and32 (a := 6#32) (b := 1#32) rfl rfl) ?_
 refine ev (Ev.neg32 (a := 0#32) rfl) <| ev (Ev.and32 (a := 0#32) (b := 3988292384#32) rfl rfl) <| ev (Ev.xor32 (a := 3#32) (b := 0#32) rfl rfl) <| as_ rfl <| dne ?_
 refine Pst.blk_norm (Pst.norm ?_)
 refine rge <| ev (Ev.add rfl rfl (I64.mk (by first | omega | (simp; done) | decide) (by first | omega | (simp; done) | decide))) <| mv rfl <| dne ?_
 refine Pst.rnd (RN.s ?_)
 refine rg <| ev (Ev.lss rfl rfl) <| dn <| cT rfl ?_
 refine WP.skip (Pst.norm ?_)
 refine WP.seq <| WP.block <| rge <| mv rfl <| ev (Ev.shr32 (a := 3#32) (c := 1) rfl rfl (by first | omega | (simp; done) | decide)) <| mv rfl <| ev (Ev.and32 (a := 3#32) (b := 1#32) rfl rfl) ?_
 refine ev (Ev.neg32 (a := 1#32) rfl) <| ev (Ev.and32 (a := 4294967295#32) (b := 3988292384#32) rfl rfl) <| ev (Ev.xor32 (a := 1#32) (b := 3988292384#32) rfl rfl) ?_
 refine as_ rfl <| dne ?_
 refine Pst.blk_norm (Pst.norm ?_)
 refine rge <| ev (Ev.add rfl rfl (I64.mk (by first | omega | (simp; done) | decide) (by first | omega | (simp; done) | decide))) <| mv rfl <| dne ?_
 refine Pst.rnd (RN.s ?_)
 refine rg <| ev (Ev.lss rfl rfl) <| dn <| cT rfl ?_
 refine WP.skip (Pst.norm ?_)
 refine WP.seq <| WP.block <| rge <| mv rfl <| ev (Ev.shr32 (a := 3988292385#32) (c := 1) rfl rfl (by first | omega | (simp; done) | decide)) <| mv rfl <| ev (Ev.and32 (a := 3988292385#32) (b := 1#32) rfl rfl) ?_
 refine ev (Ev.neg32 (a := 1#32) rfl) <| ev (Ev.and32 (a := 4294967295#32) (b := 3988292384#32) rfl rfl) <| ev (Ev.xor32 (a := 1994146192#32) (b := 3988292384#32) rfl rfl) ?_
 refine as_ rfl <| dne ?_
 refine Pst.blk_norm (Pst.norm ?_)
 refine rge <| ev (Ev.add rfl rfl (I64.mk (by first | omega | (simp; done) | decide) (by first | omega | (simp; done) | decide))) <| mv rfl <| dne ?_
 refine Pst.rnd (RN.s ?_)
 refine rg <| ev (Ev.lss rfl rfl) <| dn <| cT rfl ?_
 refine WP.skip (Pst.norm ?_)
 refine WP.seq <| WP.block <| rge <| mv rfl <| ev (Ev.shr32 (a := 2607071920#32) (c := 1) rfl rfl (by first | omega | (simp; done) | decide)) <| mv rfl <| ev (Ev.and32 (a := 2607071920#32) (b := 1#32) rfl rfl) ?_
 refine ev (Ev.neg32 (a := 0#32) rfl) <| ev (Ev.and32 (a := 0#32) (b := 3988292384#32) rfl rfl) <| ev (Ev.xor32 (a := 1303535960#32) (b := 0#32) rfl rfl) <| as_ rfl ?_
 refine dne ?_
 refine Pst.blk_norm (Pst.norm ?_)
 refine rge <| ev (Ev.add rfl rfl (I64.mk (by first | omega | (simp; done) | decide) (by first | omega | (simp; done) | decide))) <| mv rfl <| dne ?_
 refine Pst.rnd (RN.s ?_)
 refine rg <| ev (Ev.lss rfl rfl) <| dn <| cF rfl ?_
 refine WP.exit (Pst.then_exit (Pst.then_exit (Pst.blk_eq (Pst.norm ?_))))
 refine rge <| mv rfl <| mv rfl <| ev (Ev.idxP (i := 6) Tryz.underlying303 sz_145 rfl rfl rfl (by omega)) ?_
 refine stc rfl rfl rfl sz_145 K8 s0 rfl fun w9 K9 => ?_
 refine dne ?_
 refine Pst.blk_norm (Pst.norm ?_)
 refine rge <| ev (Ev.add rfl rfl (I64.mk (by first | omega | (simp; done) | decide) (by first | omega | (simp; done) | decide))) <| mv rfl <| dne ?_
 refine Pst.rnd (RN.s ?_)
 refine rg <| ev (Ev.lss rfl rfl) <| dn <| cT rfl ?_
 refine WP.skip (Pst.norm ?_)
 refine WP.seq <| WP.block <| rg <| mv rfl <| as_ rfl <| dn <| rg <| mv rfl <| ev (Ev.conv_32 (m := 7) cv_3_145.1 cv_3_145.2.1 cv_3_145.2.2 rfl) <| as_ rfl <| dn ?_
 refine WP.seq <| rg <| mv rfl <| dn <| WP.block ?_
 refine Rn 5 (RN.s ?_)
 refine rg <| ev (Ev.lss rfl rfl) <| dn <| cT rfl ?_
 refine WP.skip (Pst.norm ?_)
 refine WP.seq <| WP.block <| rge <| mv rfl <| ev (Ev.shr32 (a := 7#32) (c := 1) rfl rfl (by first | omega | (simp; done) | decide)) <| mv rfl <| ev (Ev.and32 (a := 7#32) (b := 1#32) rfl rfl) ?_
 refine ev (Ev.neg32 (a := 1#32) rfl) <| ev (Ev.and32 (a := 4294967295#32) (b := 3988292384#32) rfl rfl) <| ev (Ev.xor32 (a := 3#32) (b := 3988292384#32) rfl rfl) ?_
 refine as_ rfl <| dne ?_
 refine Pst.blk_norm (Pst.norm ?_)
 refine rge <| ev (Ev.add rfl rfl (I64.mk (by first | omega | (simp; done) | decide) (by first | omega | (simp; done) | decide))) <| mv rfl <| dne ?_
 refine Pst.rnd (RN.s ?_)
 refine rg <| ev (Ev.lss rfl rfl) <| dn <| cT rfl ?_
 refine WP.skip (Pst.norm ?_)
 refine WP.seq <| WP.block <| rge <| mv rfl <| ev (Ev.shr32 (a := 3988292387#32) (c := 1) rfl rfl (by first | omega | (simp; done) | decide)) <| mv rfl <| ev (Ev.and32 (a := 3988292387#32) (b := 1#32) rfl rfl) ?_
 refine ev (Ev.neg32 (a := 1#32) rfl) <| ev (Ev.and32 (a := 4294967295#32) (b := 3988292384#32) rfl rfl) <| ev (Ev.xor32 (a := 1994146193#32) (b := 3988292384#32) rfl rfl) ?_
 refine as_ rfl <| dne ?_
 refine Pst.blk_norm (Pst.norm ?_)
 refine rge <| ev (Ev.add rfl rfl (I64.mk (by first | omega | (simp; done) | decide) (by first | omega | (simp; done) | decide))) <| mv rfl <| dne ?_
 refine Pst.rnd (RN.s ?_)
 refine rg <| ev (Ev.lss rfl rfl) <| dn <| cT rfl ?_
 refine WP.skip (Pst.norm ?_)
 refine WP.seq <| WP.block <| rge <| mv rfl <| ev (Ev.shr32 (a := 2607071921#32) (c := 1) rfl rfl (by first | omega | (simp; done) | decide)) <| mv rfl <| ev (Ev.and32 (a := 2607071921#32) (b := 1#32) rfl rfl) ?_
 refine ev (Ev.neg32 (a := 1#32) rfl) <| ev (Ev.and32 (a := 4294967295#32) (b := 3988292384#32) rfl rfl) <| ev (Ev.xor32 (a := 1303535960#32) (b := 3988292384#32) rfl rfl) ?_
 refine as_ rfl <| dne ?_
 refine Pst.blk_norm (Pst.norm ?_)
 refine rge <| ev (Ev.add rfl rfl (I64.mk (by first | omega | (simp; done) | decide) (by first | omega | (simp; done) | decide))) <| mv rfl <| dne ?_
 refine Pst.rnd (RN.s ?_)
 refine rg <| ev (Ev.lss rfl rfl) <| dn <| cT rfl ?_
 refine WP.skip (Pst.norm ?_)
 refine WP.seq <| WP.block <| rge <| mv rfl <| ev (Ev.shr32 (a := 2685067896#32) (c := 1) rfl rfl (by first | omega | (simp; done) | decide)) <| mv rfl <| ev (Ev.and32 (a := 2685067896#32) (b := 1#32) rfl rfl) ?_
 refine ev (Ev.neg32 (a := 0#32) rfl) <| ev (Ev.and32 (a := 0#32) (b := 3988292384#32) rfl rfl) <| ev (Ev.xor32 (a := 1342533948#32) (b := 0#32) rfl rfl) <| as_ rfl ?_
 refine dne ?_
 refine Pst.blk_norm (Pst.norm ?_)
 refine rge <| ev (Ev.add rfl rfl (I64.mk (by first | omega | (simp; done) | decide) (by first | omega | (simp; done) | decide))) <| mv rfl <| dne ?_
 refine Pst.rnd (RN.s ?_)
 refine rg <| ev (Ev.lss rfl rfl) <| dn <| cF rfl ?_
 refine WP.exit (Pst.then_exit (Pst.then_exit (Pst.blk_eq (Pst.norm ?_))))
 refine rge <| mv rfl <| mv rfl <| ev (Ev.idxP (i := 7) Tryz.underlying303 sz_145 rfl rfl rfl (by omega)) ?_
 refine stc rfl rfl rfl sz_145 K9 s0 rfl fun w10 K10 => ?_
 refine dne ?_
 refine Pst.blk_norm (Pst.norm ?_)
 refine rge <| ev (Ev.add rfl rfl (I64.mk (by first | omega | (simp; done) | decide) (by first | omega | (simp; done) | decide))) <| mv rfl <| dne ?_
 refine Pst.rnd (RN.s ?_)
 refine rg <| ev (Ev.lss rfl rfl) <| dn <| cT rfl ?_
 refine WP.skip (Pst.norm ?_)
 refine WP.seq <| WP.block <| rg <| mv rfl <| as_ rfl <| dn <| rg <| mv rfl <| ev (Ev.conv_32 (m := 8) cv_3_145.1 cv_3_145.2.1 cv_3_145.2.2 rfl) <| as_ rfl <| dn ?_
 refine WP.seq <| rg <| mv rfl <| dn <| WP.block ?_
 refine Rn 5 (RN.s ?_)
 refine rg <| ev (Ev.lss rfl rfl) <| dn <| cT rfl ?_
 refine WP.skip (Pst.norm ?_)
 refine WP.seq <| WP.block <| rge <| mv rfl <| ev (Ev.shr32 (a := 8#32) (c := 1) rfl rfl (by first | omega | (simp; done) | decide)) <| mv rfl <| ev (Ev.and32 (a := 8#32) (b := 1#32) rfl rfl) ?_
 refine ev (Ev.neg32 (a := 0#32) rfl) <| ev (Ev.and32 (a := 0#32) (b := 3988292384#32) rfl rfl) <| ev (Ev.xor32 (a := 4#32) (b := 0#32) rfl rfl) <| as_ rfl <| dne ?_
 refine Pst.blk_norm (Pst.norm ?_)
 refine rge <| ev (Ev.add rfl rfl (I64.mk (by first | omega | (simp; done) | decide) (by first | omega | (simp; done) | decide))) <| mv rfl <| dne ?_
 refine Pst.rnd (RN.s ?_)
 refine rg <| ev (Ev.lss rfl rfl) <| dn <| cT rfl ?_
 refine WP.skip (Pst.norm ?_)
 refine WP.seq <| WP.block <| rge <| mv rfl <| ev (Ev.shr32 (a := 4#32) (c := 1) rfl rfl (by first | omega | (simp; done) | decide)) <| mv rfl <| ev (Ev.and32 (a := 4#32) (b := 1#32) rfl rfl) ?_
 refine ev (Ev.neg32 (a := 0#32) rfl) <| ev (Ev.and32 (a := 0#32) (b := 3988292384#32) rfl rfl) <| ev (Ev.xor32 (a := 2#32) (b := 0#32) rfl rfl) <| as_ rfl <| dne ?_
 refine Pst.blk_norm (Pst.norm ?_)
 refine rge <| ev (Ev.add rfl rfl (I64.mk (by first | omega | (simp; done) | decide) (by first | omega | (simp; done) | decide))) <| mv rfl <| dne ?_
 refine Pst.rnd (RN.s ?_)
 refine rg <| ev (Ev.lss rfl rfl) <| dn <| cT rfl ?_
 refine WP.skip (Pst.norm ?_)
 refine WP.seq <| WP.block <| rge <| mv rfl <| ev (Ev.shr32 (a := 2#32) (c := 1) rfl rfl (by first | omega | (simp; done) | decide)) <| mv rfl <| ev (Ev.and32 (a := 2#32) (b := 1#32) rfl rfl) ?_
 refine ev (Ev.neg32 (a := 0#32) rfl) <| ev (Ev.and32 (a := 0#32) (b := 3988292384#32) rfl rfl) <| ev (Ev.xor32 (a := 1#32) (b := 0#32) rfl rfl) <| as_ rfl <| dne ?_
 refine Pst.blk_norm (Pst.norm ?_)
 refine rge <| ev (Ev.add rfl rfl (I64.mk (by first | omega | (simp; done) | decide) (by first | omega | (simp; done) | decide))) <| mv rfl <| dne ?_
 refine Pst.rnd (RN.s ?_)
 refine rg <| ev (Ev.lss rfl rfl) <| dn <| cT rfl ?_
 refine WP.skip (Pst.norm ?_)
 refine WP.seq <| WP.block <| rge <| mv rfl <| ev (Ev.shr32 (a := 1#32) (c := 1) rfl rfl (by first | omega | (simp; done) | decide)) <| mv rfl <| ev (Ev.and32 (a := 1#32) (b := 1#32) rfl rfl) ?_
 refine ev (Ev.neg32 (a := 1#32) rfl) <| ev (Ev.and32 (a := 4294967295#32) (b := 3988292384#32) rfl rfl) <| ev (Ev.xor32 (a := 0#32) (b := 3988292384#32) rfl rfl) ?_
 refine as_ rfl <| dne ?_
 refine Pst.blk_norm (Pst.norm ?_)
 refine rge <| ev (Ev.add rfl rfl (I64.mk (by first | omega | (simp; done) | decide) (by first | omega | (simp; done) | decide))) <| mv rfl <| dne ?_
 refine Pst.rnd (RN.s ?_)
 refine rg <| ev (Ev.lss rfl rfl) <| dn <| cF rfl ?_
 refine WP.exit (Pst.then_exit (Pst.then_exit (Pst.blk_eq (Pst.norm ?_))))
 refine rge <| mv rfl <| mv rfl <| ev (Ev.idxP (i := 8) Tryz.underlying303 sz_145 rfl rfl rfl (by omega)) ?_
 refine stc rfl rfl rfl sz_145 K10 s0 rfl fun w11 K11 => ?_
 refine dne ?_
 refine Pst.blk_norm (Pst.norm ?_)
 refine rge <| ev (Ev.add rfl rfl (I64.mk (by first | omega | (simp; done) | decide) (by first | omega | (simp; done) | decide))) <| mv rfl <| dne ?_
 refine Pst.rnd (RN.s ?_)
 refine rg <| ev (Ev.lss rfl rfl) <| dn <| cT rfl ?_
 refine WP.skip (Pst.norm ?_)
 refine WP.seq <| WP.block <| rg <| mv rfl <| as_ rfl <| dn <| rg <| mv rfl <| ev (Ev.conv_32 (m := 9) cv_3_145.1 cv_3_145.2.1 cv_3_145.2.2 rfl) <| as_ rfl <| dn ?_
 refine WP.seq <| rg <| mv rfl <| dn <| WP.block ?_
 refine Rn 5 (RN.s ?_)
 refine rg <| ev (Ev.lss rfl rfl) <| dn <| cT rfl ?_
 refine WP.skip (Pst.norm ?_)
 refine WP.seq <| WP.block <| rge <| mv rfl <| ev (Ev.shr32 (a := 9#32) (c := 1) rfl rfl (by first | omega | (simp; done) | decide)) <| mv rfl <| ev (Ev.and32 (a := 9#32) (b := 1#32) rfl rfl) ?_
 refine ev (Ev.neg32 (a := 1#32) rfl) <| ev (Ev.and32 (a := 4294967295#32) (b := 3988292384#32) rfl rfl) <| ev (Ev.xor32 (a := 4#32) (b := 3988292384#32) rfl rfl) ?_
 refine as_ rfl <| dne ?_
 refine Pst.blk_norm (Pst.norm ?_)
 refine rge <| ev (Ev.add rfl rfl (I64.mk (by first | omega | (simp; done) | decide) (by first | omega | (simp; done) | decide))) <| mv rfl <| dne ?_
 refine Pst.rnd (RN.s ?_)
 refine rg <| ev (Ev.lss rfl rfl) <| dn <| cT rfl ?_
 refine WP.skip (Pst.norm ?_)
 refine WP.seq <| WP.block <| rge <| mv rfl <| ev (Ev.shr32 (a := 3988292388#32) (c := 1) rfl rfl (by first | omega | (simp; done) | decide)) <| mv rfl <| ev (Ev.and32 (a := 3988292388#32) (b := 1#32) rfl rfl) ?_
 refine ev (Ev.neg32 (a := 0#32) rfl) <| ev (Ev.and32 (a := 0#32) (b := 3988292384#32) rfl rfl) <| ev (Ev.xor32 (a := 1994146194#32) (b := 0#32) rfl rfl) <| as_ rfl ?_
 refine dne ?_
 refine Pst.blk_norm (Pst.norm ?_)
 refine rge <| ev (Ev.add rfl rfl (I64.mk (by first | omega | (simp; done) | decide) (by first | omega | (simp; done) | decide))) <| mv rfl <| dne ?_
 refine Pst.rnd (RN.s ?_)
 refine rg <| ev (Ev.lss rfl rfl) <| dn <| cT rfl ?_
 refine WP.skip (Pst.norm ?_)
 refine WP.seq <| WP.block <| rge <| mv rfl <| ev (Ev.shr32 (a := 1994146194#32) (c := 1) rfl rfl (by first | omega | (simp; done) | decide)) <| mv rfl <| ev (Ev.and32 (a := 1994146194#32) (b := 1#32) rfl rfl) ?_
 refine ev (Ev.neg32 (a := 0#32) rfl) <| ev (Ev.and32 (a := 0#32) (b := 3988292384#32) rfl rfl) <| ev (Ev.xor32 (a := 997073097#32) (b := 0#32) rfl rfl) <| as_ rfl ?_
 refine dne ?_
 refine Pst.blk_norm (Pst.norm ?_)
 refine rge <| ev (Ev.add rfl rfl (I64.mk (by first | omega | (simp; done) | decide) (by first | omega | (simp; done) | decide))) <| mv rfl <| dne ?_
 refine Pst.rnd (RN.s ?_)
 refine rg <| ev (Ev.lss rfl rfl) <| dn <| cT rfl ?_
 refine WP.skip (Pst.norm ?_)
 refine WP.seq <| WP.block <| rge <| mv rfl <| ev (Ev.shr32 (a := 997073097#32) (c := 1) rfl rfl (by first | omega | (simp; done) | decide)) <| mv rfl <| ev (Ev.and32 (a := 997073097#32) (b := 1#32) rfl rfl) ?_
 refine ev (Ev.neg32 (a := 1#32) rfl) <| ev (Ev.and32 (a := 4294967295#32) (b := 3988292384#32) rfl rfl) <| ev (Ev.xor32 (a := 498536548#32) (b := 3988292384#32) rfl rfl) ?_
 refine as_ rfl <| dne ?_
 refine Pst.blk_norm (Pst.norm ?_)
 refine rge <| ev (Ev.add rfl rfl (I64.mk (by first | omega | (simp; done) | decide) (by first | omega | (simp; done) | decide))) <| mv rfl <| dne ?_
 refine Pst.rnd (RN.s ?_)
 refine rg <| ev (Ev.lss rfl rfl) <| dn <| cF rfl ?_
 refine WP.exit (Pst.then_exit (Pst.then_exit (Pst.blk_eq (Pst.norm ?_))))
 refine rge <| mv rfl <| mv rfl <| ev (Ev.idxP (i := 9) Tryz.underlying303 sz_145 rfl rfl rfl (by omega)) ?_
 refine stc rfl rfl rfl sz_145 K11 s0 rfl fun w12 K12 => ?_
 refine dne ?_
 refine Pst.blk_norm (Pst.norm ?_)
 refine rge <| ev (Ev.add rfl rfl (I64.mk (by first | omega | (simp; done) | decide) (by first | omega | (simp; done) | decide))) <| mv rfl <| dne ?_
 refine Pst.rnd (RN.s ?_)
 refine rg <| ev (Ev.lss rfl rfl) <| dn <| cT rfl ?_
 refine WP.skip (Pst.norm ?_)
 refine WP.seq <| WP.block <| rg <| mv rfl <| as_ rfl <| dn <| rg <| mv rfl <| ev (Ev.conv_32 (m := 10) cv_3_145.1 cv_3_145.2.1 cv_3_145.2.2 rfl) <| as_ rfl <| dn ?_
 refine WP.seq <| rg <| mv rfl <| dn <| WP.block ?_
 refine Rn 5 (RN.s ?_)
 refine rg <| ev (Ev.lss rfl rfl) <| dn <| cT rfl ?_
 refine WP.skip (Pst.norm ?_)
 refine WP.seq <| WP.block <| rge <| mv rfl <| ev (Ev.shr32 (a := 10#32) (c := 1) rfl rfl (by first | omega | (simp; done) | decide)) <| mv rfl <| ev (Ev.and32 (a := 10#32) (b := 1#32) rfl rfl) ?_
 refine ev (Ev.neg32 (a := 0#32) rfl) <| ev (Ev.and32 (a := 0#32) (b := 3988292384#32) rfl rfl) <| ev (Ev.xor32 (a := 5#32) (b := 0#32) rfl rfl) <| as_ rfl <| dne ?_
 refine Pst.blk_norm (Pst.norm ?_)
 refine rge <| ev (Ev.add rfl rfl (I64.mk (by first | omega | (simp; done) | decide) (by first | omega | (simp; done) | decide))) <| mv rfl <| dne ?_
 refine Pst.rnd (RN.s ?_)
 refine rg <| ev (Ev.lss rfl rfl) <| dn <| cT rfl ?_
 refine WP.skip (Pst.norm ?_)
 refine WP.seq <| WP.block <| rge <| mv rfl <| ev (Ev.shr32 (a := 5#32) (c := 1) rfl rfl (by first | omega | (simp; done) | decide)) <| mv rfl <| ev (Ev.and32 (a := 5#32) (b := 1#32) rfl rfl) ?_
 refine ev (Ev.neg32 (a := 1#32) rfl) <| ev (Ev.and32 (a := 4294967295#32) (b := 3988292384#32) rfl rfl) <| ev (Ev.xor32 (a := 2#32) (b := 3988292384#32) rfl rfl) ?_
 refine as_ rfl <| dne ?_
 refine Pst.blk_norm (Pst.norm ?_)
 refine rge <| ev (Ev.add rfl rfl (I64.mk (by first | omega | (simp; done) | decide) (by first | omega | (simp; done) | decide))) <| mv rfl <| dne ?_
 refine Pst.rnd (RN.s ?_)
 refine rg <| ev (Ev.lss rfl rfl) <| dn <| cT rfl ?_
 refine WP.skip (Pst.norm ?_)
 refine WP.seq <| WP.block <| rge <| mv rfl <| ev (Ev.shr32 (a := 3988292386#32) (c := 1) rfl rfl (by first | omega | (simp; done) | decide)) <| mv rfl <| ev (Ev.and32 (a := 3988292386#32) (b := 1#32) rfl rfl) ?_
 refine ev (Ev.neg32 (a := 0#32) rfl) <| ev (Ev.and32 (a := 0#32) (b := 3988292384#32) rfl rfl) <| ev (Ev.xor32 (a := 1994146193#32) (b := 0#32) rfl rfl) <| as_ rfl ?_
 refine dne ?_
 refine Pst.blk_norm (Pst.norm ?_)
 refine rge <| ev (Ev.add rfl rfl (I64.mk (by first | omega | (simp; done) | decide) (by first | omega | (simp; done) | decide))) <| mv rfl <| dne ?_
 refine Pst.rnd (RN.s ?_)
 refine rg <| ev (Ev.lss rfl rfl) <| dn <| cT rfl ?_
 refine WP.skip (Pst.norm ?_)
 refine WP.seq <| WP.block <| rge <| mv rfl <| ev (Ev.shr32 (a := 1994146193#32) (c := 1) rfl rfl (by first | omega | (simp; done) | decide)) <| mv rfl <| ev (Ev.and32 (a := 1994146193#32) (b := 1#32) rfl rfl) ?_
 refine ev (Ev.neg32 (a := 1#32) rfl) <| ev (Ev.and32 (a := 4294967295#32) (b := 3988292384#32) rfl rfl) <| ev (Ev.xor32 (a := 997073096#32) (b := 3988292384#32) rfl rfl) ?_
 refine as_ rfl <| dne ?_
 refine Pst.blk_norm (Pst.norm ?_)
 refine rge <| ev (Ev.add rfl rfl (I64.mk (by first | omega | (simp; done) | decide) (by first | omega | (simp; done) | decide))) <| mv rfl <| dne ?_
 refine Pst.rnd (RN.s ?_)
 refine rg <| ev (Ev.lss rfl rfl) <| dn <| cF rfl ?_
 refine WP.exit (Pst.then_exit (Pst.then_exit (Pst.blk_eq (Pst.norm ?_))))
 refine rge <| mv rfl <| mv rfl <| ev (Ev.idxP (i := 10) Tryz.underlying303 sz_145 rfl rfl rfl (by omega)) ?_
 refine stc rfl rfl rfl sz_145 K12 s0 rfl fun w13 K13 => ?_
 refine dne ?_
 refine Pst.blk_norm (Pst.norm ?_)
 refine rge <| ev (Ev.add rfl rfl (I64.mk (by first | omega | (simp; done) | decide) (by first | omega | (simp; done) | decide))) <| mv rfl <| dne ?_
 refine Pst.rnd (RN.s ?_)
 refine rg <| ev (Ev.lss rfl rfl) <| dn <| cT rfl ?_
 refine WP.skip (Pst.norm ?_)
 refine WP.seq <| WP.block <| rg <| mv rfl <| as_ rfl <| dn <| rg <| mv rfl <| ev (Ev.conv_32 (m := 11) cv_3_145.1 cv_3_145.2.1 cv_3_145.2.2 rfl) <| as_ rfl <| dn ?_
 refine WP.seq <| rg <| mv rfl <| dn <| WP.block ?_
 refine Rn 5 (RN.s ?_)
 refine rg <| ev (Ev.lss rfl rfl) <| dn <| cT rfl ?_
 refine WP.skip (Pst.norm ?_)
 refine WP.seq <| WP.block <| rge <| mv rfl <| ev (Ev.shr32 (a := 11#32) (c := 1) rfl rfl (by first | omega | (simp; done) | decide)) <| mv rfl <| ev (Ev.and32 (a := 11#32) (b := 1#32) rfl rfl) ?_
 refine ev (Ev.neg32 (a := 1#32) rfl) <| ev (Ev.and32 (a := 4294967295#32) (b := 3988292384#32) rfl rfl) <| ev (Ev.xor32 (a := 5#32) (b := 3988292384#32) rfl rfl) ?_
 refine as_ rfl <| dne ?_
 refine Pst.blk_norm (Pst.norm ?_)
 refine rge <| ev (Ev.add rfl rfl (I64.mk (by first | omega | (simp; done) | decide) (by first | omega | (simp; done) | decide))) <| mv rfl <| dne ?_
 refine Pst.rnd (RN.s ?_)
 refine rg <| ev (Ev.lss rfl rfl) <| dn <| cT rfl ?_
 refine WP.skip (Pst.norm ?_)
 refine WP.seq <| WP.block <| rge <| mv rfl <| ev (Ev.shr32 (a := 3988292389#32) (c := 1) rfl rfl (by first | omega | (simp; done) | decide)) <| mv rfl <| ev (Ev.and32 (a := 3988292389#32) (b := 1#32) rfl rfl) ?_
 refine ev (Ev.neg32 (a := 1#32) rfl) <| ev (Ev.and32 (a := 4294967295#32) (b := 3988292384#32) rfl rfl) <| ev (Ev.xor32 (a := 1994146194#32) (b := 3988292384#32) rfl rfl) ?_
 refine as_ rfl <| dne ?_
 refine Pst.blk_norm (Pst.norm ?_)
 refine rge <| ev (Ev.add rfl rfl (I64.mk (by first | omega | (simp; done) | decide) (by first | omega | (simp; done) | decide))) <| mv rfl <| dne ?_
 refine Pst.rnd (RN.s ?_)
 refine rg <| ev (Ev.lss rfl rfl) <| dn <| cT rfl ?_
 refine WP.skip (Pst.norm ?_)
 refine WP.seq <| WP.block <| rge <| mv rfl <| ev (Ev.shr32 (a := 2607071922#32) (c := 1) rfl rfl (by first | omega | (simp; done) | decide)) <| mv rfl <| ev (Ev.and32 (a := 2607071922#32) (b := 1#32) rfl rfl) ?_
 refine ev (Ev.neg32 (a := 0#32) rfl) <| ev (Ev.and32 (a := 0#32) (b := 3988292384#32) rfl rfl) <| ev (Ev.xor32 (a := 1303535961#32) (b := 0#32) rfl rfl) <| as_ rfl ?_
 refine dne ?_
 refine Pst.blk_norm (Pst.norm ?_)
 refine rge <| ev (Ev.add rfl rfl (I64.mk (by first | omega | (simp; done) | decide) (by first | omega | (simp; done) | decide))) <| mv rfl <| dne ?_
 refine Pst.rnd (RN.s ?_)
 refine rg <| ev (Ev.lss rfl rfl) <| dn <| cT rfl ?_
 refine WP.skip (Pst.norm ?_)
 refine WP.seq <| WP.block <| rge <| mv rfl <| ev (Ev.shr32 (a := 1303535961#32) (c := 1) rfl rfl (by first | omega | (simp; done) | decide)) <| mv rfl <| ev (Ev.and32 (a := 1303535961#32) (b := 1#32) rfl rfl) ?_
 refine ev (Ev.neg32 (a := 1#32) rfl) <| ev (Ev.and32 (a := 4294967295#32) (b := 3988292384#32) rfl rfl) <| ev (Ev.xor32 (a := 651767980#32) (b := 3988292384#32) rfl rfl) ?_
 refine as_ rfl <| dne ?_
 refine Pst.blk_norm (Pst.norm ?_)
 refine rge <| ev (Ev.add rfl rfl (I64.mk (by first | omega | (simp; done) | decide) (by first | omega | (simp; done) | decide))) <| mv rfl <| dne ?_
 refine Pst.rnd (RN.s ?_)
 refine rg <| ev (Ev.lss rfl rfl) <| dn <| cF rfl ?_
 refine WP.exit (Pst.then_exit (Pst.then_exit (Pst.blk_eq (Pst.norm ?_))))
 refine rge <| mv rfl <| mv rfl <| ev (Ev.idxP (i := 11) Tryz.underlying303 sz_145 rfl rfl rfl (by omega)) ?_
 refine stc rfl rfl rfl sz_145 K13 s0 rfl fun w14 K14 => ?_
 refine dne ?_
 refine Pst.blk_norm (Pst.norm ?_)
 refine rge <| ev (Ev.add rfl rfl (I64.mk (by first | omega | (simp; done) | decide) (by first | omega | (simp; done) | decide))) <| mv rfl <| dne ?_
 refine Pst.rnd (RN.s ?_)
 refine rg <| ev (Ev.lss rfl rfl) <| dn <| cT rfl ?_
 refine WP.skip (Pst.norm ?_)
 refine WP.seq <| WP.block <| rg <| mv rfl <| as_ rfl <| dn <| rg <| mv rfl <| ev (Ev.conv_32 (m := 12) cv_3_145.1 cv_3_145.2.1 cv_3_145.2.2 rfl) <| as_ rfl <| dn ?_
 refine WP.seq <| rg <| mv rfl <| dn <| WP.block ?_
 refine Rn 5 (RN.s ?_)
 refine rg <| ev (Ev.lss rfl rfl) <| dn <| cT rfl ?_
 refine WP.skip (Pst.norm ?_)
 refine WP.seq <| WP.block <| rge <| mv rfl <| ev (Ev.shr32 (a := 12#32) (c := 1) rfl rfl (by first | omega | (simp; done) | decide)) <| mv rfl <| ev (Ev.and32 (a := 12#32) (b := 1#32) rfl rfl) ?_
 refine ev (Ev.neg32 (a := 0#32) rfl) <| ev (Ev.and32 (a := 0#32) (b := 3988292384#32) rfl rfl) <| ev (Ev.xor32 (a := 6#32) (b := 0#32) rfl rfl) <| as_ rfl <| dne ?_
 refine Pst.blk_norm (Pst.norm ?_)
 refine rge <| ev (Ev.add rfl rfl (I64.mk (by first | omega | (simp; done) | decide) (by first | omega | (simp; done) | decide))) <| mv rfl <| dne ?_
 refine Pst.rnd (RN.s ?_)
 refine rg <| ev (Ev.lss rfl rfl) <| dn <| cT rfl ?_
 refine WP.skip (Pst.norm ?_)
 refine WP.seq <| WP.block <| rge <| mv rfl <| ev (Ev.shr32 (a := 6#32) (c := 1) rfl rfl (by first | omega | (simp; done) | decide)) <| mv rfl <| ev (Ev.and32 (a := 6#32) (b := 1#32) rfl rfl) ?_
 refine ev (Ev.neg32 (a := 0#32) rfl) <| ev (Ev.and32 (a := 0#32) (b := 3988292384#32) rfl rfl) <| ev (Ev.xor32 (a := 3#32) (b := 0#32) rfl rfl) <| as_ rfl <| dne ?_
 refine Pst.blk_norm (Pst.norm ?_)
 refine rge <| ev (Ev.add rfl rfl (I64.mk (by first | omega | (simp; done) | decide) (by first | omega | (simp; done) | decide))) <| mv rfl <| dne ?_
 refine Pst.rnd (RN.s ?_)
 refine rg <| ev (Ev.lss rfl rfl) <| dn <| cT rfl ?_
 refine WP.skip (Pst.norm ?_)
 refine WP.seq <| WP.block <| rge <| mv rfl <| ev (Ev.shr32 (a := 3#32) (c := 1) rfl rfl (by first | omega | (simp; done) | decide)) <| mv rfl <| ev (Ev.and32 (a := 3#32) (b := 1#32) rfl rfl) ?_
 refine ev (Ev.neg32 (a := 1#32) rfl) <| ev (Ev.and32 (a := 4294967295#32) (b := 3988292384#32) rfl rfl) <| ev (Ev.xor32 (a := 1#32) (b := 3988292384#32) rfl rfl) ?_
 refine as_ rfl <| dne ?_
 refine Pst.blk_norm (Pst.norm ?_)
 refine rge <| ev (Ev.add rfl rfl (I64.mk (by first | omega | (simp; done) | decide) (by first | omega | (simp; done) | decide))) <| mv rfl <| dne ?_
 refine Pst.rnd (RN.s ?_)
 refine rg <| ev (Ev.lss rfl rfl) <| dn <| cT rfl ?_
 refine WP.skip (Pst.norm ?_)
 refine WP.seq <| WP.block <| rge <| mv rfl <| ev (Ev.shr32 (a := 3988292385#32) (c := 1) rfl rfl (by first | omega | (simp; done) | decide)) <| mv rfl <| ev (Ev.and32 (a := 3988292385#32) (b := 1#32) rfl rfl) ?_
 refine ev (Ev.neg32 (a := 1#32) rfl) <| ev (Ev.and32 (a := 4294967295#32) (b := 3988292384#32) rfl rfl) <| ev (Ev.xor32 (a := 1994146192#32) (b := 3988292384#32) rfl rfl) ?_
 refine as_ rfl <| dne ?_
 refine Pst.blk_norm (Pst.norm ?_)
 refine rge <| ev (Ev.add rfl rfl (I64.mk (by first | omega | (simp; done) | decide) (by first | omega | (simp; done) | decide))) <| mv rfl <| dne ?_
 refine Pst.rnd (RN.s ?_)
 refine rg <| ev (Ev.lss rfl rfl) <| dn <| cF rfl ?_
 refine WP.exit (Pst.then_exit (Pst.then_exit (Pst.blk_eq (Pst.norm ?_))))
 refine rge <| mv rfl <| mv rfl <| ev (Ev.idxP (i := 12) Tryz.underlying303 sz_145 rfl rfl rfl (by omega)) ?_
 refine stc rfl rfl rfl sz_145 K14 s0 rfl fun w15 K15 => ?_
 refine dne ?_
 refine Pst.blk_norm (Pst.norm ?_)
 refine rge <| ev (Ev.add rfl rfl (I64.mk (by first | omega | (simp; done) | decide) (by first | omega | (simp; done) | decide))) <| mv rfl <| dne ?_
 refine Pst.rnd (RN.s ?_)
 refine rg <| ev (Ev.lss rfl rfl) <| dn <| cT rfl ?_
 refine WP.skip (Pst.norm ?_)
 refine WP.seq <| WP.block <| rg <| mv rfl <| as_ rfl <| dn <| rg <| mv rfl <| ev (Ev.conv_32 (m := 13) cv_3_145.1 cv_3_145.2.1 cv_3_145.2.2 rfl) <| as_ rfl <| dn ?_
 refine WP.seq <| rg <| mv rfl <| dn <| WP.block ?_
 refine Rn 5 (RN.s ?_)
 refine rg <| ev (Ev.lss rfl rfl) <| dn <| cT rfl ?_
 refine WP.skip (Pst.norm ?_)
 refine WP.seq <| WP.block <| rge <| mv rfl <| ev (Ev.shr32 (a := 13#32) (c := 1) rfl rfl (by first | omega | (simp; done) | decide)) <| mv rfl <| ev (Ev.and32 (a := 13#32) (b := 1#32) rfl rfl) ?_
 refine ev (Ev.neg32 (a := 1#32) rfl) <| ev (Ev.and32 (a := 4294967295#32) (b := 3988292384#32) rfl rfl) <| ev (Ev.xor32 (a := 6#32) (b := 3988292384#32) rfl rfl) ?_
 refine as_ rfl <| dne ?_
 refine Pst.blk_norm (Pst.norm ?_)
 refine rge <| ev (Ev.add rfl rfl (I64.mk (by first | omega | (simp; done) | decide) (by first | omega | (simp; done) | decide))) <| mv rfl <| dne ?_
 refine Pst.rnd (RN.s ?_)
 refine rg <| ev (Ev.lss rfl rfl) <| dn <| cT rfl ?_
 refine WP.skip (Pst.norm ?_)
 refine WP.seq <| WP.block <| rge <| mv rfl <| ev (Ev.shr32 (a := 3988292390#32) (c := 1) rfl rfl (by first | omega | (simp; done) | decide)) <| mv rfl <| ev (Ev.and32 (a := 3988292390#32) (b := 1#32) rfl rfl) ?_
 refine ev (Ev.neg32 (a := 0#32) rfl) <| ev (Ev.and32 (a := 0#32) (b := 3988292384#32) rfl rfl) <| ev (Ev.xor32 (a := 1994146195#32) (b := 0#32) rfl rfl) <| as_ rfl ?_
 refine dne ?_
 refine Pst.blk_norm (Pst.norm ?_)
 refine rge <| ev (Ev.add rfl rfl (I64.mk (by first | omega | (simp; done) | decide) (by first | omega | (simp; done) | decide))) <| mv rfl <| dne ?_
 refine Pst.rnd (RN.s ?_)
 refine rg <| ev (Ev.lss rfl rfl) <| dn <| cT rfl ?_
 refine WP.skip (Pst.norm ?_)
 refine WP.seq <| WP.block <| rge <| mv rfl <| ev (Ev.shr32 (a := 1994146195#32) (c := 1) rfl rfl (by first | omega | (simp; done) | decide)) <| mv rfl <| ev (Ev.and32 (a := 1994146195#32) (b := 1#32) rfl rfl) ?_
 refine ev (Ev.neg32 (a := 1#32) rfl) <| ev (Ev.and32 (a := 4294967295#32) (b := 3988292384#32) rfl rfl) <| ev (Ev.xor32 (a := 997073097#32) (b := 3988292384#32) rfl rfl) ?_
 refine as_ rfl <| dne ?_
 refine Pst.blk_norm (Pst.norm ?_)
 refine rge <| ev (Ev.add rfl rfl (I64.mk (by first | omega | (simp; done) | decide) (by first | omega | (simp; done) | decide))) <| mv rfl <| dne ?_
 refine Pst.rnd (RN.s ?_)
 refine rg <| ev (Ev.lss rfl rfl) <| dn <| cT rfl ?_
 refine WP.skip (Pst.norm ?_)
 refine WP.seq <| WP.block <| rge <| mv rfl <| ev (Ev.shr32 (a := 3604390889#32) (c := 1) rfl rfl (by first | omega | (simp; done) | decide)) <| mv rfl <| ev (Ev.and32 (a := 3604390889#32) (b := 1#32) rfl rfl) ?_
 refine ev (Ev.neg32 (a := 1#32) rfl) <| ev (Ev.and32 (a := 4294967295#32) (b := 3988292384#32) rfl rfl) <| ev (Ev.xor32 (a := 1802195444#32) (b := 3988292384#32) rfl rfl) ?_
 refine as_ rfl <| dne ?_
 refine Pst.blk_norm (Pst.norm ?_)
 refine rge <| ev (Ev.add rfl rfl (I64.mk (by first | omega | (simp; done) | decide) (by first | omega | (simp; done) | decide))) <| mv rfl <| dne ?_
 refine Pst.rnd (RN.s ?_)
 refine rg <| ev (Ev.lss rfl rfl) <| dn <| cF rfl ?_
 refine WP.exit (Pst.then_exit (Pst.then_exit (Pst.blk_eq (Pst.norm ?_))))
 refine rge <| mv rfl <| mv rfl <| ev (Ev.idxP (i := 13) Tryz.underlying303 sz_145 rfl rfl rfl (by omega)) ?_
 refine stc rfl rfl rfl sz_145 K15 s0 rfl fun w16 K16 => ?_
 refine dne ?_
 refine Pst.blk_norm (Pst.norm ?_)
 refine rge <| ev (Ev.add rfl rfl (I64.mk (by first | omega | (simp; done) | decide) (by first | omega | (simp; done) | decide))) <| mv rfl <| dne ?_
 refine Pst.rnd (RN.s ?_)
 refine rg <| ev (Ev.lss rfl rfl) <| dn <| cT rfl ?_
 refine WP.skip (Pst.norm ?_)
 refine WP.seq <| WP.block <| rg <| mv rfl <| as_ rfl <| dn <| rg <| mv rfl <| ev (Ev.conv_32 (m := 14) cv_3_145.1 cv_3_145.2.1 cv_3_145.2.2 rfl) <| as_ rfl <| dn ?_
 refine WP.seq <| rg <| mv rfl <| dn <| WP.block ?_
 refine Rn 5 (RN.s ?_)
 refine rg <| ev (Ev.lss rfl rfl) <| dn <| cT rfl ?_
 refine WP.skip (Pst.norm ?_)
 refine WP.seq <| WP.block <| rge <| mv rfl <| ev (Ev.shr32 (a := 14#32) (c := 1) rfl rfl (by first | omega | (simp; done) | decide)) <| mv rfl <| ev (Ev.and32 (a := 14#32) (b := 1#32) rfl rfl) ?_
 refine ev (Ev.neg32 (a := 0#32) rfl) <| ev (Ev.and32 (a := 0#32) (b := 3988292384#32) rfl rfl) <| ev (Ev.xor32 (a := 7#32) (b := 0#32) rfl rfl) <| as_ rfl <| dne ?_
 refine Pst.blk_norm (Pst.norm ?_)
 refine rge <| ev (Ev.add rfl rfl (I64.mk (by first | omega | (simp; done) | decide) (by first | omega | (simp; done) | decide))) <| mv rfl <| dne ?_
 refine Pst.rnd (RN.s ?_)
 refine rg <| ev (Ev.lss rfl rfl) <| dn <| cT rfl ?_
 refine WP.skip (Pst.norm ?_)
 refine WP.seq <| WP.block <| rge <| mv rfl <| ev (Ev.shr32 (a := 7#32) (c := 1) rfl rfl (by first | omega | (simp; done) | decide)) <| mv rfl <| ev (Ev.and32 (a := 7#32) (b := 1#32) rfl rfl) ?_
 refine ev (Ev.neg32 (a := 1#32) rfl) <| ev (Ev.and32 (a := 4294967295#32) (b := 3988292384#32) rfl rfl) <| ev (Ev.xor32 (a := 3#32) (b := 3988292384#32) rfl rfl) ?_
 refine as_ rfl <| dne ?_
 refine Pst.blk_norm (Pst.norm ?_)
 refine rge <| ev (Ev.add rfl rfl (I64.mk (by first | omega | (simp; done) | decide) (by first | omega | (simp; done) | decide))) <| mv rfl <| dne ?_
 refine Pst.rnd (RN.s ?_)
 refine rg <| ev (Ev.lss rfl rfl) <| dn <| cT rfl ?_
 refine WP.skip (Pst.norm ?_)
 refine WP.seq <| WP.block <| rge <| mv rfl <| ev (Ev.shr32 (a := 3988292387#32) (c := 1) rfl rfl (by first | omega | (simp; done) | decide)) <| mv rfl <| ev (Ev.and32 (a := 3988292387#32) (b := 1#32) rfl rfl) ?_
 refine ev (Ev.neg32 (a := 1#32) rfl) <| ev (Ev.and32 (a := 4294967295#32) (b := 3988292384#32) rfl rfl) <| ev (Ev.xor32 (a := 1994146193#32) (b := 3988292384#32) rfl rfl) ?_
 refine as_ rfl <| dne ?_
 refine Pst.blk_norm (Pst.norm ?_)
 refine rge <| ev (Ev.add rfl rfl (I64.mk (by first | omega | (simp; done) | decide) (by first | omega | (simp; done) | decide))) <| mv rfl <| dne ?_
 refine Pst.rnd (RN.s ?_)
 refine rg <| ev (Ev.lss rfl rfl) <| dn <| cT rfl ?_
 refine WP.skip (Pst.norm ?_)
 refine WP.seq <| WP.block <| rge <| mv rfl <| ev (Ev.shr32 (a := 2607071921#32) (c := 1) rfl rfl (by first | omega | (simp; done) | decide)) <| mv rfl <| ev (Ev.and32 (a := 2607071921#32) (b := 1#32) rfl rfl) ?_
 refine ev (Ev.neg32 (a := 1#32) rfl) <| ev (Ev.and32 (a := 4294967295#32) (b := 3988292384#32) rfl rfl) <| ev (Ev.xor32 (a := 1303535960#32) (b := 3988292384#32) rfl rfl) ?_
 refine as_ rfl <| dne ?_
 refine Pst.blk_norm (Pst.norm ?_)
 refine rge <| ev (Ev.add rfl rfl (I64.mk (by first | omega | (simp; done) | decide) (by first | omega | (simp; done) | decide))) <| mv rfl <| dne ?_
 refine Pst.rnd (RN.s ?_)
 refine rg <| ev (Ev.lss rfl rfl) <| dn <| cF rfl ?_
 refine WP.exit (Pst.then_exit (Pst.then_exit (Pst.blk_eq (Pst.norm ?_))))
 refine rge <| mv rfl <| mv rfl <| ev (Ev.idxP (i := 14) Tryz.underlying303 sz_145 rfl rfl rfl (by omega)) ?_
 refine stc rfl rfl rfl sz_145 K16 s0 rfl fun w17 K17 => ?_
 refine dne ?_
 refine Pst.blk_norm (Pst.norm ?_)
 refine rge <| ev (Ev.add rfl rfl (I64.mk (by first | omega | (simp; done) | decide) (by first | omega | (simp; done) | decide))) <| mv rfl <| dne ?_
 refine Pst.rnd (RN.s ?_)
 refine rg <| ev (Ev.lss rfl rfl) <| dn <| cT rfl ?_
 refine WP.skip (Pst.norm ?_)
 refine WP.seq <| WP.block <| rg <| mv rfl <| as_ rfl <| dn <| rg <| mv rfl <| ev (Ev.conv_32 (m := 15) cv_3_145.1 cv_3_145.2.1 cv_3_145.2.2 rfl) <| as_ rfl <| dn ?_
 refine WP.seq <| rg <| mv rfl <| dn <| WP.block ?_
 refine Rn 5 (RN.s ?_)
 refine rg <| ev (Ev.lss rfl rfl) <| dn <| cT rfl ?_
 refine WP.skip (Pst.norm ?_)
 refine WP.seq <| WP.block <| rge <| mv rfl <| ev (Ev.shr32 (a := 15#32) (c := 1) rfl rfl (by first | omega | (simp; done) | decide)) <| mv rfl <| ev (Ev.and32 (a := 15#32) (b := 1#32) rfl rfl) ?_
 refine ev (Ev.neg32 (a := 1#32) rfl) <| ev (Ev.and32 (a := 4294967295#32) (b := 3988292384#32) rfl rfl) <| ev (Ev.xor32 (a := 7#32) (b := 3988292384#32) rfl rfl) ?_
 refine as_ rfl <| dne ?_
 refine Pst.blk_norm (Pst.norm ?_)
 refine rge <| ev (Ev.add rfl rfl (I64.mk (by first | omega | (simp; done) | decide) (by first | omega | (simp; done) | decide))) <| mv rfl <| dne ?_
 refine Pst.rnd (RN.s ?_)
 refine rg <| ev (Ev.lss rfl rfl) <| dn <| cT rfl ?_
 refine WP.skip (Pst.norm ?_)
 refine WP.seq <| WP.block <| rge <| mv rfl <| ev (Ev.shr32 (a := 3988292391#32) (c := 1) rfl rfl (by first | omega | (simp; done) | decide)) <| mv rfl <| ev (Ev.and32 (a := 3988292391#32) (b := 1#32) rfl rfl) ?_
 refine ev (Ev.neg32 (a := 1#32) rfl) <| ev (Ev.and32 (a := 4294967295#32) (b := 3988292384#32) rfl rfl) <| ev (Ev.xor32 (a := 1994146195#32) (b := 3988292384#32) rfl rfl) ?_
 refine as_ rfl <| dne ?_
 refine Pst.blk_norm (Pst.norm ?_)
 refine rge <| ev (Ev.add rfl rfl (I64.mk (by first | omega | (simp; done) | decide) (by first | omega | (simp; done) | decide))) <| mv rfl <| dne ?_
 refine Pst.rnd (RN.s ?_)
 refine rg <| ev (Ev.lss rfl rfl) <| dn <| cT rfl ?_
 refine WP.skip (Pst.norm ?_)
 refine WP.seq <| WP.block <| rge <| mv rfl <| ev (Ev.shr32 (a := 2607071923#32) (c := 1) rfl rfl (by first | omega | (simp; done) | decide)) <| mv rfl <| ev (Ev.and32 (a := 2607071923#32) (b := 1#32) rfl rfl) ?_
 refine ev (Ev.neg32 (a := 1#32) rfl) <| ev (Ev.and32 (a := 4294967295#32) (b := 3988292384#32) rfl rfl) <| ev (Ev.xor32 (a := 1303535961#32) (b := 3988292384#32) rfl rfl) ?_
 refine as_ rfl <| dne ?_
 refine Pst.blk_norm (Pst.norm ?_)
 refine rge <| ev (Ev.add rfl rfl (I64.mk (by first | omega | (simp; done) | decide) (by first | omega | (simp; done) | decide))) <| mv rfl <| dne ?_
 refine Pst.rnd (RN.s ?_)
 refine rg <| ev (Ev.lss rfl rfl) <| dn <| cT rfl ?_
 refine WP.skip (Pst.norm ?_)
 refine WP.seq <| WP.block <| rge <| mv rfl <| ev (Ev.shr32 (a := 2685067897#32) (c := 1) rfl rfl (by first | omega | (simp; done) | decide)) <| mv rfl <| ev (Ev.and32 (a := 2685067897#32) (b := 1#32) rfl rfl) ?_
 refine ev (Ev.neg32 (a := 1#32) rfl) <| ev (Ev.and32 (a := 4294967295#32) (b := 3988292384#32) rfl rfl) <| ev (Ev.xor32 (a := 1342533948#32) (b := 3988292384#32) rfl rfl) ?_
 refine as_ rfl <| dne ?_
 refine Pst.blk_norm (Pst.norm ?_)
 refine rge <| ev (Ev.add rfl rfl (I64.mk (by first | omega | (simp; done) | decide) (by first | omega | (simp; done) | decide))) <| mv rfl <| dne ?_
 refine Pst.rnd (RN.s ?_)
 refine rg <| ev (Ev.lss rfl rfl) <| dn <| cF rfl ?_
 refine WP.exit (Pst.then_exit (Pst.then_exit (Pst.blk_eq (Pst.norm ?_))))
 refine rge <| mv rfl <| mv rfl <| ev (Ev.idxP (i := 15) Tryz.underlying303 sz_145 rfl rfl rfl (by omega)) ?_
 refine stc rfl rfl rfl sz_145 K17 s0 rfl fun w18 K18 => ?_
 refine dne ?_
 refine Pst.blk_norm (Pst.norm ?_)
 refine rge <| ev (Ev.add rfl rfl (I64.mk (by first | omega | (simp; done) | decide) (by first | omega | (simp; done) | decide))) <| mv rfl <| dne ?_
 refine Pst.rnd (RN.s ?_)
 refine rg <| ev (Ev.lss rfl rfl) <| dn <| cF rfl ?_
 refine WP.exit (Pst.then_exit (Pst.then_exit (Pst.blk_eq (Pst.norm ?_))))
 refine rg <| ev (Ev.loadBox ag_303 rfl rfl (K18.x s0)) ?_
 refine stw rfl rfl rfl sz_303 K18 s1 rfl rfl fun w19 K19 => ?_
 refine dn ?_
 refine WP.ret (Pst.retC rfl ⟨_, _, rfl, ⟨_, rfl, loads_box (cs := [.int .u32 0, .int .u32 498536548, .int .u32 997073096, .int .u32 651767980, .int .u32 1994146192, .int .u32 1802195444, .int .u32 1303535960, .int .u32 1342533948, .int .u32 3988292384, .int .u32 4027552580, .int .u32 3604390888, .int .u32 3412177804, .int .u32 2607071920, .int .u32 2262029012, .int .u32 2685067896, .int .u32 3183342108]) ag_303 rfl (K19.x s0)⟩, rfl⟩ ?_)
 exact ⟨rfl, K19.z⟩

theorem More_ok {S0 : Nat → Prop} (w : World) (sum : BitVec 32) {A_b : Option Addr} {c_b : Nat} {b : List (BitVec 8)} (h_b : Sl tByte S0 w A_b c_b b) :
    Rets Tryz.prog 138 #[.int .u32 ((sum).toNat : Int), .slice A_b b.length c_b] w fun v w' => v = .int .u32 ((crcMore sum b).toNat : Int) ∧ Hp w S0 w' [] := by
 refine WP.enter Tryz.func138 rfl Tryz.ntmps138 rfl ?_
 have H0 := Hp.init w S0
 have hb_b := h_b.len_le
 refine rg <| as_ rfl <| dn ?_
 refine WP.jumps (lb := 0) (fun mJ lJ wJ => ∃ (k : Nat) (gt : Nat), lJ = [(1, .slice A_b b.length c_b), (5, .pointer (some ⟨gt, 0, none⟩)), (6, .int .u32 ((((b.take k).foldl crcB (~~~sum))).toNat : Int)), (7, .int .i64 ((k : Nat) : Int))] ∧ mJ = b.length - k ∧ (k ≤ b.length) ∧ Hp w S0 wJ [rBx gt 303 [.int .u32 0, .int .u32 498536548, .int .u32 997073096, .int .u32 651767980, .int .u32 1994146192, .int .u32 1802195444, .int .u32 1303535960, .int .u32 1342533948, .int .u32 3988292384, .int .u32 4027552580, .int .u32 3604390888, .int .u32 3412177804, .int .u32 2607071920, .int .u32 2262029012, .int .u32 2685067896, .int .u32 3183342108]]) rfl ?_ ?_
 ·
  rintro _ _ w4 ⟨k, gt, rfl, rfl, hk, K4⟩
  refine WP.seq <| rg <| mv rfl <| mv rfl <| ev (Ev.len Tryz.underlying32 rfl) <| ev (Ev.lss rfl rfl) <| dn ?_
  refine WP.cond_end rfl (fun hc14 => ?_) (fun hc14 => ?_)
  ·
   replace hc14 := of_decide_eq_true hc14
   refine rg <| mv rfl <| mv rfl <| mv rfl ?_
   obtain ⟨x1, hx1⟩ := get_some (xs := b) (i := k) (by omega)
   refine ev (Ev.index (i := k) Tryz.underlying32 sz_5 rfl rfl rfl (lt_of_get hx1) ((K4.a h_b).some_ hx1)) <| ev (Ev.loadCell na_5 rfl ((K4.a h_b).flat_cell (j := 0) hx1 rfl)) ?_
   refine ev (Ev.conv8_32 (a := x1) cv_5_145.1 cv_5_145.2.1 cv_5_145.2.2 rfl) <| ev (Ev.xor32 (a := ((b.take k).foldl crcB (~~~sum))) (b := (x1.setWidth 32)) rfl rfl) ?_
   refine as_ rfl <| dn <| rg <| mv rfl <| ev (Ev.and32 (a := (((b.take k).foldl crcB (~~~sum)) ^^^ (x1.setWidth 32))) (b := 15#32) rfl rfl) <| ev (Ev.idxP (i := (((((b.take k).foldl crcB (~~~sum)) ^^^ (x1.setWidth 32)) &&& 15#32)).toNat) Tryz.underlying303 sz_145 rfl rfl rfl (by exact and15_lt _)) ?_
   refine ev (Ev.loadBoxCell na_145 rfl (K4.x s0) (crc_cell (and15_lt _))) <| mv rfl <| ev (Ev.shr32 (a := (((b.take k).foldl crcB (~~~sum)) ^^^ (x1.setWidth 32))) (c := 4) rfl rfl (by omega)) ?_
   refine ev (Ev.xor32 (a := crcAt ((((((b.take k).foldl crcB (~~~sum)) ^^^ (x1.setWidth 32)) &&& 15#32)).toNat)) (b := ((((b.take k).foldl crcB (~~~sum)) ^^^ (x1.setWidth 32)) >>> 4)) rfl rfl) ?_
   refine as_ rfl <| dn <| rg <| mv rfl <| ev (Ev.and32 (a := (crcAt ((((((b.take k).foldl crcB (~~~sum)) ^^^ (x1.setWidth 32)) &&& 15#32)).toNat) ^^^ ((((b.take k).foldl crcB (~~~sum)) ^^^ (x1.setWidth 32)) >>> 4))) (b := 15#32) rfl rfl) ?_
   refine ev (Ev.idxP (i := (((crcAt ((((((b.take k).foldl crcB (~~~sum)) ^^^ (x1.setWidth 32)) &&& 15#32)).toNat) ^^^ ((((b.take k).foldl crcB (~~~sum)) ^^^ (x1.setWidth 32)) >>> 4)) &&& 15#32)).toNat) Tryz.underlying303 sz_145 rfl rfl rfl (by exact and15_lt _)) ?_
   refine ev (Ev.loadBoxCell na_145 rfl (K4.x s0) (crc_cell (and15_lt _))) <| mv rfl <| ev (Ev.shr32 (a := (crcAt ((((((b.take k).foldl crcB (~~~sum)) ^^^ (x1.setWidth 32)) &&& 15#32)).toNat) ^^^ ((((b.take k).foldl crcB (~~~sum)) ^^^ (x1.setWidth 32)) >>> 4))) (c := 4) rfl rfl (by omega)) ?_
   refine ev (Ev.xor32 (a := crcAt ((((crcAt ((((((b.take k).foldl crcB (~~~sum)) ^^^ (x1.setWidth 32)) &&& 15#32)).toNat) ^^^ ((((b.take k).foldl crcB (~~~sum)) ^^^ (x1.setWidth 32)) >>> 4)) &&& 15#32)).toNat)) (b := ((crcAt ((((((b.take k).foldl crcB (~~~sum)) ^^^ (x1.setWidth 32)) &&& 15#32)).toNat) ^^^ ((((b.take k).foldl crcB (~~~sum)) ^^^ (x1.setWidth 32)) >>> 4)) >>> 4)) rfl rfl) ?_
   refine as_ rfl <| dn <| rg <| mv rfl <| ev (Ev.add rfl rfl (I64.mk (by omega) (by omega))) <| as_ rfl <| dn ?_
   refine WP.goto (Pst.then_goto ?_)
   have hq2 : ((((crcAt ((((crcAt ((((((b.take k).foldl crcB (~~~sum)) ^^^ (x1.setWidth 32)) &&& 15#32)).toNat) ^^^ ((((b.take k).foldl crcB (~~~sum)) ^^^ (x1.setWidth 32)) >>> 4)) &&& 15#32)).toNat) ^^^ ((crcAt ((((((b.take k).foldl crcB (~~~sum)) ^^^ (x1.setWidth 32)) &&& 15#32)).toNat) ^^^ ((((b.take k).foldl crcB (~~~sum)) ^^^ (x1.setWidth 32)) >>> 4)) >>> 4))).toNat : Int) : Int) = ((((b.take (k + 1)).foldl crcB (~~~sum))).toNat : Int) := by rw [take_snoc hx1, List.foldl_append]; rfl
   refine Pst.re (t := 6) rfl (congrArg (Value.int .u32) hq2) ?_
   exact Pst.jag ⟨(k + 1), gt, rfl, rfl, by omega, K4⟩ rfl (by omega)
  replace hc14 := of_decide_eq_false hc14
  refine WP.skip (Pst.norm ?_)
  refine rg <| mv rfl <| ev (Ev.not32 (a := ((b.take k).foldl crcB (~~~sum))) rfl) <| as_ rfl <| dn ?_
  refine WP.ret (Pst.jump_ret (Pst.body_ret rfl rfl rfl ?_))
  have hq3 : ((((~~~((b.take k).foldl crcB (~~~sum)))).toNat : Int) : Int) = ((crcMore sum b).toNat : Int) := by rw [List.take_of_length_le (by omega)]; rfl
  exact ⟨by rw [hq3] <;> rfl, (K4.rm s0)⟩
 ·
  intro hp0
  refine rg ?_
  refine C0 H0 rfl rfl rfl cl_208 (Nib_ok (S0 := Any) _) fun w1 K1 => ?_
  refine al zero_303 rfl K1 fun g1 w2 K2 => ?_
  refine stw rfl rfl rfl sz_303 K2 s0 rfl rfl fun w3 K3 => ?_
  refine dn <| rg <| mv rfl <| ev (Ev.not32 (a := sum) rfl) <| as_ rfl <| dn <| rg <| as_ rfl <| dn ?_
  have hq1 : ((((~~~sum)).toNat : Int) : Int) = ((((b.take 0).foldl crcB (~~~sum))).toNat : Int) := by rfl
  refine WP.re (t := 6) rfl (congrArg (Value.int .u32) hq1) ?_
  exact WP.kp hp0 ⟨0, g1, rfl, rfl, by exact Nat.zero_le _, K3⟩ rfl

theorem Sum_ok {S0 : Nat → Prop} (w : World) {A_b : Option Addr} {c_b : Nat} {b : List (BitVec 8)} (h_b : Sl tByte S0 w A_b c_b b) :
    Rets Tryz.prog 78 #[.slice A_b b.length c_b] w fun v w' => v = .int .u32 ((crcSum b).toNat : Int) ∧ Hp w S0 w' [] := by
 refine WP.enter Tryz.func78 rfl Tryz.ntmps78 rfl ?_
 have H0 := Hp.init w S0
 have hb_b := h_b.len_le
 refine rg <| as_ rfl <| dn <| rg <| mv rfl ?_
 refine C0 H0 rfl rfl rfl cl_138 (More_ok _ (0#32) (H0.a h_b).any) fun w1 K1 => ?_
 refine as_ rfl <| dn ?_
 refine WP.ret (Pst.body_ret rfl rfl rfl ?_)
 have hq1 : (((crcMore (0#32) b).toNat : Int) : Int) = ((crcSum b).toNat : Int) := by rfl
 exact ⟨by rw [hq1] <;> rfl, K1⟩

theorem Seal_ok {S0 : Nat → Prop} (w : World) {A_b : Option Addr} {c_b : Nat} {b : List (BitVec 8)} (h_b : Sl tByte S0 w A_b c_b b) (hn : b.length ≤ 100000) :
    Rets Tryz.prog 122 #[.slice A_b b.length c_b] w fun v w' => ∃ (A0 : Option Addr) (c0 : Nat), v = .slice A0 ((sealL b).length) c0 ∧ Hp w S0 w' [rOwn tByte 5 A0 c0 (sealL b)] := by
 refine WP.enter Tryz.func122 rfl Tryz.ntmps122 rfl ?_
 have H0 := Hp.init w S0
 have hb_b := h_b.len_le
 refine rg <| as_ rfl <| dn <| rg <| mv rfl ?_
 refine C0 H0 rfl rfl rfl cl_78 (Sum_ok _ (H0.a h_b).any) fun w1 K1 => ?_
 refine as_ rfl <| dn <| rg <| mv rfl <| WL.call rfl rfl rfl cl_22 (CloneByte_ok _ (K1.a h_b).any (by omega)) rfl ?_
 rintro _ w2 ⟨A0_2, c0_2, rfl, h2⟩
 have K2 := K1.f1 h2
 refine as_ rfl <| dn <| WP.seq <| rg <| mv rfl <| dn <| WP.block ?_
 have hq1 : (b : List (BitVec 8)) = (b ++ (le4 (crcSum b)).take 0) := by simp
 refine WP.re (t := 4) rfl (congrArg (fun z => Value.slice A0_2 (List.length z) c0_2) hq1) ?_
 rw [hq1] at K2
 refine Lp (K2.rm s0) (fun l0 rk mJ lJ wJ => ∃ (k : Nat) (A1 : Option Addr) (c1 : Nat), lJ = (4, .slice A1 ((b ++ (le4 (crcSum b)).take k).length) c1) :: (10, .int .i64 ((k : Nat) : Int)) :: l0 ∧ mJ = 4 - k ∧ k ≤ 4 ∧ Hp w S0 wJ (rOwn tByte 5 A1 c1 (b ++ (le4 (crcSum b)).take k) :: rk)) ⟨0, A0_2, c0_2, rfl, rfl, Nat.zero_le _, K2⟩ rfl ?_
 rintro _ _ w3 ⟨k, A1, c1, rfl, rfl, hk, K3⟩
 refine rg <| ev (Ev.lss rfl rfl) <| dn ?_
 refine WP.cond rfl (fun hc11 => ?_) (fun hc11 => ?_)
 ·
  replace hc11 := of_decide_eq_true hc11
  refine WP.skip (Pst.norm ?_)
  refine WP.seq <| WP.block <| rg <| mv rfl <| as_ rfl <| dn <| rge <| mv rfl <| mv rfl <| mv rfl <| ev (Ev.mul rfl rfl (I64.mk (by omega) (by omega))) <| ev (Ev.shr32 (a := crcSum b) (c := 8 * k) rfl rfl (by omega)) ?_
  refine ev (Ev.conv32_8 (a := (crcSum b >>> (8 * k))) cv_145_5.1 cv_145_5.2.1 cv_145_5.2.2 rfl) ?_
  refine bs1 (τ := tByte) (x := ((crcSum b >>> (8 * k)).setWidth 8)) rfl (by intro _; apply bs_32_1_I) rfl K3 (fun _ _ => rfl) fun g1 w4 K4 => ?_
  refine ap (ys := ([((crcSum b >>> (8 * k)).setWidth 8)] : List (BitVec 8))) K4 s1 rfl rfl (K4.o s0) Tryz.underlying32 ei_5 (by simp only [List.length_append, List.length_take]; omega) (by simp) rfl fun Ap1 cp1 w5 K5 => ?_
  refine as_ rfl <| dne ?_
  refine Pst.blk_norm (Pst.norm ?_)
  refine rge <| ev (Ev.add rfl rfl (I64.mk (by omega) (by omega))) <| mv rfl <| dne ?_
  have hq2 : (((b ++ (le4 (crcSum b)).take k) ++ ([((crcSum b >>> (8 * k)).setWidth 8)] : List (BitVec 8))) : List (BitVec 8)) = (b ++ (le4 (crcSum b)).take (k + 1)) := by rw [List.append_assoc, le4_snoc _ (by omega)]
  refine Pst.re (t := 4) rfl (congrArg (fun z => Value.slice Ap1 (List.length z) cp1) hq2) ?_
  rw [hq2] at K5
  exact Pst.ag ⟨(k + 1), Ap1, cp1, rfl, rfl, by omega, (K5.rm s1)⟩ rfl (by omega)
 replace hc11 := of_decide_eq_false hc11
 refine WP.exit (Pst.then_exit (Pst.then_exit (Pst.blk_eq (Pst.norm ?_))))
 refine rg <| mv rfl <| as_ rfl <| dn ?_
 refine WP.ret (Pst.body_ret rfl rfl rfl ?_)
 have hq3 : ((b ++ (le4 (crcSum b)).take k) : List (BitVec 8)) = (sealL b) := by rw [show k = 4 from by omega]; rfl
 rw [hq3] at K3
 exact ⟨A1, c1, by rw [hq3] <;> rfl, K3⟩

theorem Open_ok {S0 : Nat → Prop} (w : World) {A_b : Option Addr} {c_b : Nat} {b : List (BitVec 8)} (h_b : Sl tByte S0 w A_b c_b b) (hn : b.length ≤ 100000) :
    Rets Tryz.prog 66 #[.slice A_b b.length c_b] w fun v w' => ∃ (A0 : Option Addr) (c0 : Nat), v = .tuple #[.slice A0 (((openL b).getD []).length) c0, .bool ((openL b).isSome)] ∧ Hp w S0 w' [rOwn tByte 5 A0 c0 ((openL b).getD [])] := by
 refine WP.enter Tryz.func66 rfl Tryz.ntmps66 rfl ?_
 have H0 := Hp.init w S0
 have hb_b := h_b.len_le
 refine rg <| as_ rfl <| as_ rfl <| dn <| rg <| mv rfl <| ev (Ev.len Tryz.underlying32 rfl) <| ev (Ev.sub rfl rfl (I64.mk (by omega) (by omega))) <| as_ rfl <| dn ?_
 refine WP.seq <| rg <| mv rfl <| ev (Ev.lss rfl rfl) <| mv rfl ?_
 refine WL.cutbW 8 18 (!(openL b).isSome) ?_ ?_
 ·
  cases hb10 : decide (((b.length : Nat) : Int) - 4 < 0) with
  | true =>
   refine WL.pass rfl rfl rfl <| WL.pass rfl rfl rfl <| WL.pass rfl rfl rfl <| WL.pass rfl rfl rfl <| WL.pass rfl rfl rfl <| WL.pass rfl rfl rfl <| WL.pass rfl rfl rfl ?_
   refine ev (Ev.pick_t rfl rfl) <| WL.re (t := 18) (u := .bool true) (v := .bool (!(openL b).isSome)) rfl (congrArg Value.bool (by unfold openL; rw [if_neg (by have := of_decide_eq_true hb10; omega)]; rfl)) ?_
   exact WL.cendW rfl (Ext.refl _)
  | false =>
   have hb10p := of_decide_eq_false hb10
   refine WL.evg rfl (Ev.move rfl) rfl <| WL.evg rfl (Ev.move rfl) rfl <| WL.re (t := 12) rfl (congrArg (Value.int .i64) (show (((b.length : Nat) : Int) - 4 : Int) = ((b.length - 4 : Nat) : Int) by have := of_decide_eq_false hb10; omega)) ?_
   refine WL.evg rfl (Ev.cutTo (hi := b.length - 4) (xs := b) Tryz.underlying32 sz_5 rfl rfl rfl (by omega) (H0.a h_b).cap) rfl <| WL.callg rfl rfl rfl rfl cl_122 (Seal_ok _ ((H0.a h_b).cutTo (hi := b.length - 4) (by omega)).any (by rw [List.length_take]; omega)) rfl ?_
   rintro _ w1 ⟨A0_1, c0_1, rfl, h1⟩
   have K1 := H0.f1 h1
   have hL1_0 := (K1.o s0).len_le
   refine WL.evg rfl (Ev.move rfl) rfl <| WL.callg rfl rfl rfl rfl cl_123 (EqualB_ok _ (K1.o s0) (K1.a h_b).any) rfl ?_
   rintro _ w2 ⟨rfl, h2⟩
   have K2 := K1.c0 h2
   refine WL.evg rfl (Ev.not rfl) rfl <| ev (Ev.pick_f rfl rfl) <| WL.re (t := 18) (u := .bool (!(decide ((sealL (b.take (b.length - 4))) = b)))) (v := .bool (!(openL b).isSome)) rfl (congrArg Value.bool (by exact open_no (by have := of_decide_eq_false hb10; omega))) ?_
   exact WL.cendW rfl (h1.ext.trans h2.ext)
 intro w3 e3
 have K3 := H0.grow e3
 refine dn ?_
 refine WP.cond_end rfl (fun hc18 => ?_) (fun hc18 => ?_)
 ·
  try simp only [Bool.or_eq_true, Bool.or_eq_false_iff, Bool.and_eq_true, Bool.and_eq_false_imp, Bool.not_eq_true', Bool.not_eq_false', decide_eq_true_eq, decide_eq_false_iff_not] at hc18
  refine rg <| as_ rfl <| as_ rfl <| dn ?_
  refine WP.ret (Pst.then_ret (Pst.body_ret rfl rfl rfl ?_))
  have H1 := K3.nil tByte 5
  have hq1 : (([] : List (BitVec 8)) : List (BitVec 8)) = ((openL b).getD []) := by cases h0 : openL b with | none => rfl | some _ => (rw [h0] at hc18; simp at hc18)
  have H2 := (hq1 ▸ H1 : Hp w S0 w3 (rOwn tByte 5 none 0 ((openL b).getD []) :: []))
  have hq2 : (false : Bool) = ((openL b).isSome) := by cases h0 : openL b with | none => rfl | some _ => (rw [h0] at hc18; simp at hc18)
  exact ⟨none, 0, by rw [← hq1, ← hq2] <;> rfl, H2⟩
 try simp only [Bool.or_eq_true, Bool.or_eq_false_iff, Bool.and_eq_true, Bool.and_eq_false_imp, Bool.not_eq_true', Bool.not_eq_false', decide_eq_true_eq, decide_eq_false_iff_not] at hc18
 have h4 : 4 ≤ b.length := by have h8 := hc18; unfold openL at h8; split at h8 <;> rename_i h9 <;> first | exact h9.1 | simp at h8
 refine WP.re (t := 4) rfl (congrArg (Value.int .i64) (show (((b.length : Nat) : Int) - 4 : Int) = ((b.length - 4 : Nat) : Int) by omega)) ?_
 refine WP.skip (Pst.norm ?_)
 refine rg <| mv rfl <| mv rfl <| ev (Ev.cutTo (hi := b.length - 4) (xs := b) Tryz.underlying32 sz_5 rfl rfl rfl (by omega) (K3.a h_b).cap) <| WL.call rfl rfl rfl cl_22 (CloneByte_ok _ ((K3.a h_b).cutTo (hi := b.length - 4) (by omega)).any (by rw [List.length_take]; omega)) rfl ?_
 rintro _ w4 ⟨A0_4, c0_4, rfl, h4⟩
 have K4 := K3.f1 h4
 have hL4_0 := (K4.o s0).len_le
 refine as_ rfl <| as_ rfl <| dn ?_
 refine WP.ret (Pst.body_ret rfl rfl rfl ?_)
 have hq3 : ((b.take (b.length - 4)) : List (BitVec 8)) = ((openL b).getD []) := by exact open_yes (by simpa using hc18)
 rw [hq3] at K4
 have hq4 : (true : Bool) = ((openL b).isSome) := by symm; simpa using hc18
 exact ⟨A0_4, c0_4, by rw [hq3, ← hq4] <;> rfl, K4⟩

end Go.Proofs.YtlnjmkmhmbijmaaGreat
