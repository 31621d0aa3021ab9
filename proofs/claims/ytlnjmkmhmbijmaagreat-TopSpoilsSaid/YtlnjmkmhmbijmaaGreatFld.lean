/- Contracts of functions: what each call hands back, and that it leaves all that was there as it was. -/
import Derived.Test.YtlnjmkmhmbijmaaGreatByt
set_option maxRecDepth 4000
set_option linter.all false
namespace Go.Proofs.YtlnjmkmhmbijmaaGreat
open Go.RowKit
/-- how many bytes a number needs, or -1 -/
def sizeZ (n : Int) : Int := if n < 0 ∨ n / 2 ^ 56 ≠ 0 then -1 else (sizeN n.toNat : Int)
theorem sizeZ_ok {n : Int} (h : ¬ sizeZ n < 0) : 0 ≤ n ∧ n.toNat < 2 ^ 56 ∧ sizeZ n = (sizeN n.toNat : Int) := by
  unfold sizeZ at h ⊢
  split at h
  · omega
  · rename_i hc
    rw [if_neg hc]
    refine ⟨by omega, by omega, rfl⟩
theorem sizeZ_nat {n : Nat} (h : n < 2 ^ 56) : sizeZ (n : Int) = (sizeN n : Int) := by
  unfold sizeZ; rw [if_neg (by omega)]; rfl
/-- numbers as bytes -/
def fldL (n : Nat) : List (BitVec 8) := b8 (sizeN n) :: beB n (sizeN n)
def packL (ns : List Nat) : List (BitVec 8) := b8 ns.length :: (ns.flatMap fldL ++ [0#8, 0#8])
theorem fldL_len {n : Nat} (h : n < 2 ^ 56) : (fldL n).length ≤ 8 := by
  unfold fldL; rw [List.length_cons, beB_length]; have := sizeN_le h; omega
theorem flat_len : ∀ (ns : List Nat), (∀ n ∈ ns, n < 2 ^ 56) → (ns.flatMap fldL).length ≤ 8 * ns.length
  | [], _ => by simp
  | n :: ns, h => by
    rw [List.flatMap_cons, List.length_append, List.length_cons]
    have h1 := fldL_len (h n (by simp)); have h2 := flat_len ns (fun m hm => h m (by simp [hm])); omega
theorem packL_len {ns : List Nat} (h : ∀ n ∈ ns, n < 2 ^ 56) : (packL ns).length ≤ 8 * ns.length + 3 := by
  have := flat_len ns h
  unfold packL; simp only [List.length_cons, List.length_append, List.length_nil]; omega
def bMayL (b : ABallot) : Bool := (decide (0 ≤ b.Term) && decide (b.Term ≤ 1073741824)) && (decide (b.Vote = 0) || (decide (1 ≤ b.Vote) && decide (b.Vote ≤ 16)))
def riseL : Int → List AEntry → Bool
  | _, [] => true
  | f, e :: l => !(decide (e.Term < (if 1 > f then 1 else f)) || decide (1073741824 < e.Term)) && riseL e.Term l
def lMayL (l : ALog) : Bool :=
  !(decide (l.Base < 0 ∨ 1099511627776 < l.Base ∨ l.BaseTerm < 0 ∨ 1073741824 < l.BaseTerm)) && !(decide ((l.Base = 0 ∧ l.BaseTerm ≠ 0) ∨ 64 < l.L.length)) && riseL l.BaseTerm l.L
def numsZ (i : Int) (e : AEntry) : List Int := [i, e.Term, e.Cmd.Client, e.Cmd.Seq, e.Cmd.Kind, e.Cmd.A, e.Cmd.B, e.Cmd.C]
abbrev Rec := Nat × List Nat
def recB (r : Rec) : List (BitVec 8) := frameL r.1 (packL r.2)
def nats (l : List Int) : List Nat := l.map Int.toNat
def bRec (b : ABallot) : Rec := (1, nats [b.Term, b.Vote])
def eRec (i : Nat) (e : AEntry) : Rec := (2, nats (numsZ ((i : Int) + 1) e))
def eRecs : Nat → List AEntry → List Rec
  | _, [] => []
  | i, e :: l => eRec i e :: eRecs (i + 1) l
def recsL (b : ABallot) (l : List AEntry) : List Rec := (if b = ⟨0, 0⟩ then [] else [bRec b]) ++ eRecs 0 l
def bytesL (rs : List Rec) : List (BitVec 8) := rs.flatMap recB
/-- what a record makes -/
def entOf : List Nat → AEntry
  | [_, t, c, s, k, a, b, d] => ⟨(t : Int), ⟨(c : Int), (s : Int), (k : Int), (a : Int), (b : Int), (d : Int)⟩⟩
  | _ => ⟨0, ⟨0, 0, 0, 0, 0, 0⟩⟩
def balOf : List Nat → ABallot
  | [t, v] => ⟨(t : Int), (v : Int)⟩
  | _ => ⟨0, 0⟩
def stepR (s : ABallot × List AEntry) (r : Rec) : Option (ABallot × List AEntry) :=
  if r.1 = 1 ∧ r.2.length = 2 then (if bMayL (balOf r.2) then some (balOf r.2, s.2) else none)
  else if r.1 = 2 ∧ r.2.length = 8 ∧ r.2.getD 0 0 = s.2.length + 1 then (if lMayL ⟨0, 0, s.2 ++ [entOf r.2]⟩ then some (s.1, s.2 ++ [entOf r.2]) else none)
  else none
def stepsR : ABallot × List AEntry → List Rec → Option (ABallot × List AEntry)
  | s, [] => some s
  | s, r :: rs => match stepR s r with
    | none => none
    | some s' => stepsR s' rs
/-- a record that may be -/
def okR (r : Rec) : Prop := r.1 ≤ 3 ∧ r.2.length ≤ 8 ∧ ∀ n ∈ r.2, n < 2 ^ 56
theorem stepsR_append : ∀ (a b : List Rec) (s : ABallot × List AEntry), stepsR s (a ++ b) = (stepsR s a).bind fun s' => stepsR s' b
  | [], b, s => rfl
  | r :: a, b, s => by
    have e : ∀ c, stepsR s (r :: c) = match stepR s r with | none => none | some s' => stepsR s' c := fun _ => rfl
    show stepsR s (r :: (a ++ b)) = _
    rw [e, e]
    cases h : stepR s r with
    | none => rfl
    | some s' => exact stepsR_append a b s'
theorem riseL_append : ∀ (l m : List AEntry) (f : Int), riseL f (l ++ m) = true → riseL f l = true
  | [], _, _, _ => rfl
  | e :: l, m, f, h => by
    unfold riseL
    rw [List.cons_append] at h
    unfold riseL at h
    rw [Bool.and_eq_true] at h ⊢
    exact ⟨h.1, riseL_append l m _ h.2⟩
theorem lMay_pre {l m : List AEntry} (h : lMayL ⟨0, 0, l ++ m⟩ = true) : lMayL ⟨0, 0, l⟩ = true := by
  unfold lMayL at h ⊢
  simp only [Bool.and_eq_true, Bool.not_eq_true', decide_eq_false_iff_not, List.length_append] at h ⊢
  exact ⟨⟨h.1.1, by omega⟩, riseL_append _ _ _ h.2⟩
theorem toNat_cast {z : Int} (h : ¬ sizeZ z < 0) : ((z.toNat : Nat) : Int) = z := by have := (sizeZ_ok h).1; omega
theorem entOf_rec {i : Nat} {e : AEntry} (h : ∀ z ∈ numsZ 0 e, ¬ sizeZ z < 0) : entOf (eRec i e).2 = e := by
  obtain ⟨t, c⟩ := e; obtain ⟨c0, c1, c2, c3, c4, c5⟩ := c
  simp only [numsZ, List.mem_cons, List.not_mem_nil, or_false, forall_eq_or_imp, forall_eq] at h
  obtain ⟨_, h1, h2, h3, h4, h5, h6, h7⟩ := h
  simp only [eRec, nats, numsZ, List.map_cons, List.map_nil, entOf, toNat_cast h1, toNat_cast h2, toNat_cast h3, toNat_cast h4, toNat_cast h5, toNat_cast h6, toNat_cast h7]
theorem steps_entries : ∀ (l m : List AEntry) (b : ABallot), lMayL ⟨0, 0, m ++ l⟩ = true → (∀ e ∈ l, ∀ z ∈ numsZ 0 e, ¬ sizeZ z < 0) → stepsR (b, m) (eRecs m.length l) = some (b, m ++ l)
  | [], m, b, _, _ => by simp [eRecs, stepsR]
  | e :: l, m, b, hm, ho => by
    have he : m ++ e :: l = (m ++ [e]) ++ l := by simp
    have h1 : stepR (b, m) (eRec m.length e) = some (b, m ++ [e]) := by
      unfold stepR
      rw [if_neg (fun h => absurd (show (2 : Nat) = 1 from h.1) (by decide)), if_pos ⟨rfl, rfl, by simp [eRec, nats, numsZ]⟩, entOf_rec (ho e (by simp))]
      rw [if_pos (lMay_pre (by rw [← he]; exact hm))]
    show stepsR (b, m) (eRec m.length e :: eRecs (m.length + 1) l) = _
    unfold stepsR
    rw [h1]
    have h2 := steps_entries l (m ++ [e]) b (by rw [← he]; exact hm) (fun x hx => ho x (by simp [hx]))
    rw [he, ← h2]
    simp
theorem steps_recs {b : ABallot} {l : List AEntry} (hb : bMayL b = true) (hl : lMayL ⟨0, 0, l⟩ = true) (ho : ∀ e ∈ l, ∀ z ∈ numsZ 0 e, ¬ sizeZ z < 0) : stepsR (⟨0, 0⟩, []) (recsL b l) = some (b, l) := by
  unfold recsL
  have h2 := steps_entries l [] b (by simpa using hl) ho
  split
  · rename_i h; subst h; simpa using h2
  · have hz : balOf (bRec b).2 = b := by
      obtain ⟨t, v⟩ := b
      unfold bMayL at hb
      simp only [Bool.and_eq_true, Bool.or_eq_true, decide_eq_true_eq] at hb
      simp only [bRec, nats, List.map_cons, List.map_nil, balOf]
      congr 1 <;> omega
    show stepsR (⟨0, 0⟩, []) (bRec b :: eRecs 0 l) = _
    unfold stepsR
    have h1 : stepR (⟨0, 0⟩, []) (bRec b) = some (b, []) := by
      unfold stepR; rw [if_pos ⟨rfl, rfl⟩, hz, if_pos hb]
    rw [h1]; simpa using h2
theorem eRecs_ok : ∀ (l : List AEntry) (i : Nat), i + l.length ≤ 1000 → (∀ e ∈ l, ∀ z ∈ numsZ 0 e, ¬ sizeZ z < 0) → ∀ r ∈ eRecs i l, okR r
  | [], _, _, _, r, hr => by simp [eRecs] at hr
  | e :: l, i, hi, ho, r, hr => by
    rw [List.length_cons] at hi
    rcases List.mem_cons.1 hr with rfl | hr
    · refine ⟨Nat.le_of_ble_eq_true rfl, Nat.le_of_ble_eq_true rfl, ?_⟩
      have h := ho e (by simp)
      simp only [numsZ, List.mem_cons, List.not_mem_nil, or_false, forall_eq_or_imp, forall_eq] at h
      obtain ⟨_, h1, h2, h3, h4, h5, h6, h7⟩ := h
      simp only [eRec, nats, numsZ, List.map_cons, List.map_nil, List.mem_cons, List.not_mem_nil, or_false, forall_eq_or_imp, forall_eq]
      exact ⟨by omega, (sizeZ_ok h1).2.1, (sizeZ_ok h2).2.1, (sizeZ_ok h3).2.1, (sizeZ_ok h4).2.1, (sizeZ_ok h5).2.1, (sizeZ_ok h6).2.1, (sizeZ_ok h7).2.1⟩
    · exact eRecs_ok l (i + 1) (by omega) (fun x hx => ho x (by simp [hx])) r hr
theorem recs_ok {b : ABallot} {l : List AEntry} (hb : bMayL b = true) (hl : l.length ≤ 70) (ho : ∀ e ∈ l, ∀ z ∈ numsZ 0 e, ¬ sizeZ z < 0) : ∀ r ∈ recsL b l, okR r := by
  intro r hr
  unfold recsL at hr
  rcases List.mem_append.1 hr with h | h
  · split at h
    · simp at h
    · rw [List.mem_singleton] at h; subst h
      unfold bMayL at hb
      simp only [Bool.and_eq_true, Bool.or_eq_true, decide_eq_true_eq] at hb
      refine ⟨Nat.le_of_ble_eq_true rfl, Nat.le_of_ble_eq_true rfl, ?_⟩
      simp only [bRec, nats, List.map_cons, List.map_nil, List.mem_cons, List.not_mem_nil, or_false, forall_eq_or_imp, forall_eq]
      omega
  · exact eRecs_ok l 0 (by omega) ho r h

theorem idx_any {α : Type} (f : α → Bool) (s : List α) : decide (0 ≤ idxOf f s) = s.any f := by
  rw [Bool.eq_iff_iff]
  simp only [decide_eq_true_eq, List.any_eq_true]
  rcases idxOf_spec f s with ⟨h1, h2⟩ | ⟨k, x, h1, h2, h3, h4⟩
  · rw [h1]
    constructor
    · intro h; omega
    · rintro ⟨x, hx, hf⟩; rw [h2 x hx] at hf; cases hf
  · rw [h1]
    constructor
    · intro _; exact ⟨x, mem_of_get h2, h3⟩
    · intro _; omega
theorem bitLen_le {m k : Nat} (h : m < 2 ^ k) : bitLen m ≤ k := by
  by_cases h0 : m = 0
  · subst h0; unfold bitLen; simp
  · have h1 := (bitLen_spec m).2 h0
    have : bitLen m - 1 < k := (Nat.pow_lt_pow_iff_right (by decide : 1 < 2)).1 (Nat.lt_of_le_of_lt h1 h)
    omega
theorem beB02 : beB 0 2 = [0#8, 0#8] := rfl
theorem beB_snoc {n size k : Nat} (h : k < size) : (beB n size).take k ++ [b8 (n / 2 ^ (8 * (size - 1 - k)))] = (beB n size).take (k + 1) :=
  (take_snoc (by simp [beB, h])).symm
theorem flat_snoc {ns : List Int} {k : Nat} {x : Int} (h : ns[k]? = some x) : (nats (ns.take (k + 1))).flatMap fldL = (nats (ns.take k)).flatMap fldL ++ (b8 (sizeN x.toNat) :: beB x.toNat (sizeN x.toNat)) := by
  rw [take_snoc h]; simp [nats, fldL]
theorem flatz_len {ns : List Int} {k : Nat} (h : ∀ z ∈ ns, ¬ sizeZ z < 0) (hl : ns.length ≤ 255) : ((nats (ns.take k)).flatMap fldL).length ≤ 2048 := by
  have h1 := flat_len (nats (ns.take k)) (fun n hn => by
    obtain ⟨z, hz, rfl⟩ := List.mem_map.1 hn
    exact (sizeZ_ok (h z (List.mem_of_mem_take hz))).2.1)
  have h2 : (nats (ns.take k)).length ≤ 255 := by simp only [nats, List.length_map, List.length_take]; omega
  omega

theorem cv_3_41 : (Tryz.prog.underlying 3).isSome = true ∧ Tryz.prog.underlying 41 = some (.int (Tryz.prog.intKind 41)) ∧ Tryz.prog.intKind 41 = .u64 := ⟨by kernel_rfl, by kernel_rfl, by kernel_rfl⟩
theorem cl_119 : Callable Tryz.prog 119 := fun _ _ => by kernel_rfl
theorem cl_62 : Callable Tryz.prog 62 := fun _ _ => by kernel_rfl
theorem sz_3 : Size Tryz.prog 3 1 := fun _ => by kernel_rfl
theorem na_3 : NotAgg Tryz.prog 3 := fun _ => by kernel_rfl
theorem cl_118 : Callable Tryz.prog 118 := fun _ _ => by kernel_rfl
theorem cv_3_5 : (Tryz.prog.underlying 3).isSome = true ∧ Tryz.prog.underlying 5 = some (.int (Tryz.prog.intKind 5)) ∧ Tryz.prog.intKind 5 = .u8 := ⟨by kernel_rfl, by kernel_rfl, by kernel_rfl⟩
theorem fa_128_0 : FieldAt Tryz.prog 128 0 0 := fun _ _ => by kernel_rfl
theorem na_72 : NotAgg Tryz.prog 72 := fun _ => by kernel_rfl
theorem fa_128_1 : FieldAt Tryz.prog 128 1 1 := fun _ _ => by kernel_rfl
theorem na_32 : NotAgg Tryz.prog 32 := fun _ => by kernel_rfl
theorem cl_120 : Callable Tryz.prog 120 := fun _ _ => by kernel_rfl
theorem cl_60 : Callable Tryz.prog 60 := fun _ _ => by kernel_rfl
theorem cl_121 : Callable Tryz.prog 121 := fun _ _ => by kernel_rfl
theorem Size_ok {S0 : Nat → Prop} (w : World) (n : Int) (hn : InI64 n) :
    Rets Tryz.prog 62 #[.int .i64 n] w fun v w' => v = .int .i64 (sizeZ n) ∧ Hp w S0 w' [] := by
 refine WP.enter Tryz.func62 rfl Tryz.ntmps62 rfl ?_
 have H0 := Hp.init w S0
 refine rg <| as_ rfl <| dn <| WP.seq <| rg <| mv rfl <| ev (Ev.lss rfl rfl) <| mv rfl ?_
 refine WL.cutb 4 9 ((decide (n < 0)) || (!decide (n / 2 ^ 56 = 0))) ?_ ?_
 ·
  cases hb5 : decide (n < 0) with
  | true =>
   refine WL.pass rfl rfl rfl <| WL.pass rfl rfl rfl <| WL.pass rfl rfl rfl <| ev (Ev.pick_t rfl rfl) ?_
   exact WL.cend rfl
  | false =>
   have hb5p := of_decide_eq_false hb5
   refine WL.evg rfl (Ev.move rfl) rfl <| WL.evg rfl (Ev.shrZ (c := 56) rfl rfl (by omega)) rfl <| WL.evg rfl (Ev.neq rfl rfl) rfl <| ev (Ev.pick_f rfl rfl) ?_
   exact WL.cend rfl
 refine dn ?_
 refine WP.cond_end rfl (fun hc9 => ?_) (fun hc9 => ?_)
 ·
  refine rg <| as_ rfl <| dn ?_
  refine WP.ret (Pst.then_ret (Pst.body_ret rfl rfl rfl ?_))
  have hq1 : ((-1) : Int) = (sizeZ n) := by unfold sizeZ; rw [if_pos (by simpa using hc9)]
  exact ⟨by rw [← hq1] <;> rfl, H0⟩
 refine WP.skip (Pst.norm ?_)
 simp only [Bool.or_eq_false_iff, decide_eq_false_iff_not, Bool.not_eq_false', decide_eq_true_eq] at hc9
 have hb := bitLen_le (m := n.toNat) (k := 56) (by have := hc9.2; omega)
 have hc9a := hc9.1
 refine rg <| mv rfl <| WL.re (t := 10) rfl (congrArg (Value.int .i64) (show (n : Int) = ((n.toNat : Nat) : Int) by omega)) <| ev (Ev.convNat (m := n.toNat) cv_3_41.1 cv_3_41.2.1 cv_3_41.2.2 rfl (wrap_nat_u64 (by omega))) ?_
 refine C0 H0 rfl rfl rfl cl_119 (Len_ok (S0 := Any) _ n.toNat (by omega)) fun w1 K1 => ?_
 refine ev (Ev.add rfl rfl (I64.mk (by omega) (by omega))) <| ev (Ev.subN (a := bitLen n.toNat + 8) (b := 1) rfl rfl rfl (by omega) (by omega)) <| ev (Ev.quoN (a := (bitLen n.toNat + 8) - 1) (c := 8) rfl rfl rfl (by omega) (by omega)) ?_
 refine as_ rfl <| dn ?_
 refine WP.ret (Pst.body_ret rfl rfl rfl ?_)
 have hq2 : (((((bitLen n.toNat + 8) - 1) / 8 : Nat) : Int) : Int) = (sizeZ n) := by unfold sizeZ sizeN; rw [if_neg (by have := hc9.2; omega)]; omega
 exact ⟨by rw [hq2] <;> rfl, K1⟩

theorem Pack1_ok {S0 : Nat → Prop} (w : World) (n : Int) (hn : InI64 n) :
    Rets Tryz.prog 120 #[.int .i64 n] w fun v w' => v = .bool (decide (sizeZ n < 0)) ∧ Hp w S0 w' [] := by
 refine WP.enter Tryz.func120 rfl Tryz.ntmps120 rfl ?_
 have H0 := Hp.init w S0
 refine rg <| as_ rfl <| dn <| rg <| mv rfl ?_
 refine C0 H0 rfl rfl rfl cl_62 (Size_ok (S0 := Any) _ n (by first | assumption | (unfold InI64; omega))) fun w1 K1 => ?_
 refine ev (Ev.lss rfl rfl) <| as_ rfl <| dn ?_
 refine WP.ret (Pst.body_ret rfl rfl rfl ?_)
 exact ⟨rfl, K1⟩

theorem IndexFuncInt_ok {S0 : Nat → Prop} (w : World) {A_s : Option Addr} {c_s : Nat} {s : List Int} (h_s : Sl tInt S0 w A_s c_s s) {f_f : FuncId} {k_f : List Value} (q_f : Callable Tryz.prog f_f) (f : Int → Bool) (h_f : ∀ (w' : World) (x : Int), Ext w w' → x ∈ s → Rets Tryz.prog f_f (([.int .i64 x] : List Value) ++ k_f).toArray w' fun v w'' => v = .bool (f x) ∧ Ext w' w'') :
    Rets Tryz.prog 118 #[.slice A_s s.length c_s, .func (.func f_f) #[] k_f.toArray] w fun v w' => v = .int .i64 (idxOf f s) ∧ Hp w S0 w' [] := by
 refine WP.enter Tryz.func118 rfl Tryz.ntmps118 rfl ?_
 have H0 := Hp.init w S0
 have hb_s := h_s.len_le
 refine rg <| as_ rfl <| dn <| WP.seq <| rg <| mv rfl <| ev (Ev.len Tryz.underlying72 rfl) <| mv rfl <| dn <| WP.block <| Lp H0 (fun l0 rk mJ lJ wJ => ∃ (k : Nat), lJ = (8, .int .i64 ((k : Nat) : Int)) :: l0 ∧ mJ = s.length - k ∧ k ≤ s.length ∧ (∀ y ∈ s.take k, f y = false) ∧ Hp w S0 wJ rk) ⟨0, rfl, rfl, Nat.zero_le _, by simp, H0⟩ rfl ?_
 rintro _ _ w1 ⟨k, rfl, rfl, hk, hno, K1⟩
 refine rg <| ev (Ev.lss rfl rfl) <| dn ?_
 refine WP.cond rfl (fun hc9 => ?_) (fun hc9 => ?_)
 ·
  replace hc9 := of_decide_eq_true hc9
  refine WP.skip (Pst.norm ?_)
  refine WP.seq <| WP.block <| rg <| mv rfl <| as_ rfl <| dn <| rg <| mv rfl <| mv rfl <| mv rfl ?_
  obtain ⟨x1, hx1⟩ := get_some (xs := s) (i := k) (by omega)
  refine ev (Ev.index (i := k) Tryz.underlying72 sz_3 rfl rfl rfl (lt_of_get hx1) ((K1.a h_s).some_ hx1)) <| ev (Ev.loadCell na_3 rfl ((K1.a h_s).flat_cell (j := 0) hx1 rfl)) ?_
  refine WL.call rfl rfl rfl q_f (h_f _ x1 K1.ext (mem_of_get hx1)) rfl ?_
  rintro _ w2 ⟨rfl, e2⟩
  have K2 := K1.grow e2
  refine dn ?_
  refine WP.cond_end rfl (fun hc16 => ?_) (fun hc16 => ?_)
  ·
   refine rg <| mv rfl <| as_ rfl <| dn ?_
   refine WP.ret (Pst.blk_ret (Pst.then_ret (Pst.then_ret (Pst.blk_ret (Pst.then_ret (Pst.body_ret rfl rfl rfl ?_))))))
   have hq1 : (((k : Nat) : Int) : Int) = (idxOf f s) := by exact (idxOf_found hno hx1 hc16).symm
   exact ⟨by rw [hq1] <;> rfl, K2⟩
  refine WP.skip (Pst.blk_norm (Pst.norm ?_))
  refine rge <| ev (Ev.add rfl rfl (I64.mk (by omega) (by omega))) <| mv rfl <| dne ?_
  exact Pst.ag ⟨(k + 1), rfl, rfl, by omega, by exact all_snoc (q := fun y => f y = false) hno hx1 hc16, K2⟩ rfl (by omega)
 replace hc9 := of_decide_eq_false hc9
 refine WP.exit (Pst.then_exit (Pst.then_exit (Pst.blk_eq (Pst.norm ?_))))
 refine rg <| as_ rfl <| dn ?_
 refine WP.ret (Pst.body_ret rfl rfl rfl ?_)
 have hq2 : ((-1) : Int) = (idxOf f s) := by exact (idxOf_none (all_take hno (by omega))).symm
 exact ⟨by rw [← hq2] <;> rfl, K1⟩

theorem ContainsFuncInt_ok {S0 : Nat → Prop} (w : World) {A_s : Option Addr} {c_s : Nat} {s : List Int} (h_s : Sl tInt S0 w A_s c_s s) {f_f : FuncId} {k_f : List Value} (q_f : Callable Tryz.prog f_f) (f : Int → Bool) (h_f : ∀ (w' : World) (x : Int), Ext w w' → x ∈ s → Rets Tryz.prog f_f (([.int .i64 x] : List Value) ++ k_f).toArray w' fun v w'' => v = .bool (f x) ∧ Ext w' w'') :
    Rets Tryz.prog 60 #[.slice A_s s.length c_s, .func (.func f_f) #[] k_f.toArray] w fun v w' => v = .bool (s.any f) ∧ Hp w S0 w' [] := by
 refine WP.enter Tryz.func60 rfl Tryz.ntmps60 rfl ?_
 have H0 := Hp.init w S0
 have hb_s := h_s.len_le
 refine rg <| as_ rfl <| dn <| rg <| mv rfl <| mv rfl ?_
 refine C0 H0 rfl rfl rfl cl_118 (IndexFuncInt_ok _ (H0.a h_s).any q_f f (fun w' x e hm => h_f w' x (H0.ext.trans e) hm)) fun w1 K1 => ?_
 refine ev (Ev.geq rfl rfl) <| as_ rfl <| dn ?_
 refine WP.ret (Pst.body_ret rfl rfl rfl ?_)
 have hq1 : (decide (0 ≤ idxOf f s) : Bool) = (s.any f) := by exact idx_any f s
 exact ⟨by rw [hq1] <;> rfl, K1⟩

theorem put_ok {b w : World} {S : Nat → Prop} {F : List Res} {A_xs : Option Addr} {c_xs : Nat} {xs : List (BitVec 8)} (H0 : Hp b S w (rOwn tByte 5 A_xs c_xs xs :: F)) (n : Nat) (size : Nat) (hs : size ≤ 8) (hx : xs.length ≤ 900000) :
    Rets Tryz.prog 121 #[.slice A_xs xs.length c_xs, .int .i64 ((n : Nat) : Int), .int .i64 ((size : Nat) : Int)] w fun v w' => ∃ (A0 : Option Addr) (c0 : Nat), v = .slice A0 ((xs ++ beB n size).length) c0 ∧ Hp b S w' (rOwn tByte 5 A0 c0 (xs ++ beB n size) :: F) := by
 refine WP.enter Tryz.func121 rfl Tryz.ntmps121 rfl <| rg <| as_ rfl <| dn <| WP.seq <| rg <| mv rfl <| mv rfl <| dn <| WP.block ?_
 have hq1 : (xs : List (BitVec 8)) = (xs ++ (beB n size).take 0) := by simp
 refine WP.re (t := 0) rfl (congrArg (fun z => Value.slice A_xs (List.length z) c_xs) hq1) ?_
 rw [hq1] at H0
 refine Lp (H0.rm s0) (fun l0 rk mJ lJ wJ => ∃ (k : Nat) (A1 : Option Addr) (c1 : Nat), lJ = (0, .slice A1 ((xs ++ (beB n size).take k).length) c1) :: (9, .int .i64 ((k : Nat) : Int)) :: l0 ∧ mJ = size - k ∧ k ≤ size ∧ Hp b S wJ (rOwn tByte 5 A1 c1 (xs ++ (beB n size).take k) :: rk)) ⟨0, A_xs, c_xs, rfl, rfl, Nat.zero_le _, H0⟩ rfl ?_
 rintro _ _ w1 ⟨k, A1, c1, rfl, rfl, hk, K1⟩
 refine rg <| ev (Ev.lss rfl rfl) <| dn ?_
 refine WP.cond rfl (fun hc10 => ?_) (fun hc10 => ?_)
 ·
  replace hc10 := of_decide_eq_true hc10
  refine WP.skip (Pst.norm ?_)
  refine WP.seq <| WP.block <| rg <| mv rfl <| as_ rfl <| dn <| rge <| mv rfl <| mv rfl <| mv rfl <| ev (Ev.subN (a := size) (b := 1) rfl rfl rfl (by omega) (by omega)) ?_
  refine mv rfl <| ev (Ev.subN (a := size - 1) (b := k) rfl rfl rfl (by omega) (by omega)) <| ev (Ev.mul rfl rfl (I64.mk (by omega) (by omega))) <| WL.re (t := 18) rfl (congrArg (Value.int .i64) (show (8 * (((size - 1) - k : Nat) : Int) : Int) = ((8 * (size - 1 - k) : Nat) : Int) by omega)) ?_
  refine ev (Ev.shrI (m := n) (c := 8 * (size - 1 - k)) rfl rfl (by omega)) <| ev (Ev.conv_8 (m := n / 2 ^ (8 * (size - 1 - k))) cv_3_5.1 cv_3_5.2.1 cv_3_5.2.2 rfl) ?_
  refine bs1 (τ := tByte) (x := (b8 (n / 2 ^ (8 * (size - 1 - k))))) rfl (by intro _; apply bs_32_1_I) rfl K1 (fun _ _ => rfl) fun g1 w2 K2 => ?_
  refine ap (ys := ([(b8 (n / 2 ^ (8 * (size - 1 - k))))] : List (BitVec 8))) K2 s1 rfl rfl (K2.o s0) Tryz.underlying32 ei_5 (by simp only [List.length_append, List.length_take, beB_length]; omega) (by simp) rfl fun Ap1 cp1 w3 K3 => ?_
  refine as_ rfl <| dne ?_
  refine Pst.blk_norm (Pst.norm ?_)
  refine rge <| ev (Ev.add rfl rfl (I64.mk (by omega) (by omega))) <| mv rfl <| dne ?_
  have hq2 : (((xs ++ (beB n size).take k) ++ ([(b8 (n / 2 ^ (8 * (size - 1 - k))))] : List (BitVec 8))) : List (BitVec 8)) = (xs ++ (beB n size).take (k + 1)) := by rw [List.append_assoc, beB_snoc (by omega)]
  refine Pst.re (t := 0) rfl (congrArg (fun z => Value.slice Ap1 (List.length z) cp1) hq2) ?_
  rw [hq2] at K3
  exact Pst.ag ⟨(k + 1), Ap1, cp1, rfl, rfl, by omega, (K3.rm s1)⟩ rfl (by omega)
 replace hc10 := of_decide_eq_false hc10
 refine WP.exit (Pst.then_exit (Pst.then_exit (Pst.blk_eq (Pst.norm ?_))))
 refine rg <| mv rfl <| as_ rfl <| dn ?_
 refine WP.ret (Pst.body_ret rfl rfl rfl ?_)
 have hq3 : ((xs ++ (beB n size).take k) : List (BitVec 8)) = (xs ++ beB n size) := by rw [List.take_of_length_le (by rw [beB_length]; omega)]
 exact ⟨A1, c1, by rw [← hq3] <;> rfl, by rw [← hq3]; exact K1⟩

theorem Pack_ok {S0 : Nat → Prop} (w : World) (f : AFields) {B0_f : Option Addr} {d0_f : Nat} (h0_f : Sl tInt S0 w B0_f d0_f f.N) {B1_f : Option Addr} {d1_f : Nat} (h1_f : Sl tByte S0 w B1_f d1_f f.Data) (hd : f.Data = []) (hN : ∀ z ∈ f.N, ¬ sizeZ z < 0) (hI : ∀ z ∈ f.N, InI64 z) (hl : f.N.length ≤ 255) :
    Rets Tryz.prog 63 #[.agg #[.slice B0_f f.N.length d0_f, .slice B1_f f.Data.length d1_f]] w fun v w' => ∃ (A0 : Option Addr) (c0 : Nat), v = .tuple #[.slice A0 ((packL (nats f.N)).length) c0, .int .i64 0] ∧ Hp w S0 w' [rOwn tByte 5 A0 c0 (packL (nats f.N))] := by
 refine WP.enter Tryz.func63 rfl Tryz.ntmps63 rfl ?_
 have H0 := Hp.init w S0
 have hd' : f.Data.length = 0 := by rw [hd]; rfl
 refine rg ?_
 refine bx rfl rfl H0 fun g1 w1 K1 => ?_
 refine as_ rfl <| as_ rfl <| dn <| rg <| as_ rfl <| dn <| WP.seq <| WP.block <| rg <| ev (Ev.field (q := ⟨g1, 0, none⟩) fa_128_0 rfl rfl) <| ev (Ev.loadBoxCell na_72 rfl (K1.x s0) rfl) ?_
 refine ev (Ev.len Tryz.underlying72 rfl) <| ev (Ev.gtr rfl rfl) <| mv rfl ?_
 refine WL.cutb 5 18 ((decide (255 < ((f.N.length : Nat) : Int))) || (decide (4096 < ((f.Data.length : Nat) : Int)))) ?_ ?_
 ·
  cases hb13 : decide (255 < ((f.N.length : Nat) : Int)) with
  | true =>
   refine WL.pass rfl rfl rfl <| WL.pass rfl rfl rfl <| WL.pass rfl rfl rfl <| WL.pass rfl rfl rfl <| ev (Ev.pick_t rfl rfl) ?_
   exact WL.cend rfl
  | false =>
   have hb13p := of_decide_eq_false hb13
   refine WL.evg rfl (Ev.field (q := ⟨g1, 1, none⟩) fa_128_1 rfl rfl) rfl <| WL.evg rfl (Ev.loadBoxCell na_32 rfl (K1.x s0) rfl) rfl <| WL.evg rfl (Ev.len Tryz.underlying32 rfl) rfl ?_
   refine WL.evg rfl (Ev.gtr rfl rfl) rfl <| ev (Ev.pick_f rfl rfl) ?_
   exact WL.cend rfl
 refine as_ rfl <| dn ?_
 refine WP.cond_end rfl (fun hc8 => ?_) (fun hc8 => ?_)
 ·
  try simp only [Bool.or_eq_true, Bool.or_eq_false_iff, decide_eq_true_eq, decide_eq_false_iff_not] at hc8
  omega
 try simp only [Bool.or_eq_true, Bool.or_eq_false_iff, decide_eq_true_eq, decide_eq_false_iff_not] at hc8
 refine rg <| ev (Ev.field (q := ⟨g1, 0, none⟩) fa_128_0 rfl rfl) <| ev (Ev.loadBoxCell na_72 rfl (K1.x s0) rfl) <| mv rfl ?_
 refine C0 K1 rfl rfl rfl cl_60 (ContainsFuncInt_ok _ (K1.a h0_f).any (k_f := []) cl_120 (fun (x : Int) => decide (sizeZ x < 0)) (fun w' x e hm => (Pack1_ok (S0 := Any) w' x (hI _ hm)).mono (by rintro _ _ ⟨rfl, hq2⟩; exact ⟨rfl, hq2.ext⟩))) fun w2 K2 => ?_
 refine as_ rfl <| dn ?_
 refine WP.cond_end rfl (fun hc19 => ?_) (fun hc19 => ?_)
 ·
  simp at hc19; obtain ⟨z, hz, h9⟩ := hc19; exact absurd h9 (hN z hz)
 refine WP.skip (Pst.blk_norm (Pst.norm ?_))
 refine rg <| ev (Ev.field (q := ⟨g1, 0, none⟩) fa_128_0 rfl rfl) <| ev (Ev.loadBoxCell na_72 rfl (K2.x s0) rfl) <| ev (Ev.len Tryz.underlying72 rfl) <| ev (Ev.conv_8 (m := f.N.length) cv_3_5.1 cv_3_5.2.1 cv_3_5.2.2 rfl) ?_
 refine bs1 (τ := tByte) (x := (b8 f.N.length)) rfl (by intro _; apply bs_32_1_I) rfl K2 (fun _ _ => rfl) fun g2 w3 K3 => ?_
 refine as_ rfl <| dn <| WP.seq <| rg <| ev (Ev.field (q := ⟨g1, 0, none⟩) fa_128_0 rfl rfl) <| ev (Ev.loadBoxCell na_72 rfl (K3.x s1) rfl) <| ev (Ev.len Tryz.underlying72 rfl) ?_
 refine mv rfl <| dn <| WP.block ?_
 have hq1 : (([(b8 f.N.length)] : List (BitVec 8)) : List (BitVec 8)) = (b8 f.N.length :: (nats (f.N.take 0)).flatMap fldL) := by simp [nats]
 refine WP.re (t := 5) rfl (congrArg (fun z => Value.slice (some ⟨g2, 0, none⟩) (List.length z) 1) hq1) ?_
 rw [hq1] at K3
 refine Lp (K3.rm s0) (fun l0 rk mJ lJ wJ => ∃ (k : Nat) (A1 : Option Addr) (c1 : Nat), lJ = (5, .slice A1 ((b8 f.N.length :: (nats (f.N.take k)).flatMap fldL).length) c1) :: (32, .int .i64 ((k : Nat) : Int)) :: l0 ∧ mJ = f.N.length - k ∧ k ≤ f.N.length ∧ Hp w S0 wJ (rOwn tByte 5 A1 c1 (b8 f.N.length :: (nats (f.N.take k)).flatMap fldL) :: rk)) ⟨0, (some ⟨g2, 0, none⟩), 1, rfl, rfl, Nat.zero_le _, K3⟩ rfl ?_
 rintro _ _ w4 ⟨k, A1, c1, rfl, rfl, hk, K4⟩
 refine rg <| ev (Ev.lss rfl rfl) <| dn ?_
 refine WP.cond rfl (fun hc33 => ?_) (fun hc33 => ?_)
 ·
  replace hc33 := of_decide_eq_true hc33
  refine WP.skip (Pst.norm ?_)
  refine WP.seq <| WP.block <| rg ?_
  obtain ⟨x1, hx1⟩ := get_some (xs := f.N) (i := k) (by omega)
  refine ev (Ev.index (i := k) Tryz.underlying72 sz_3 rfl rfl rfl (lt_of_get hx1) ((K4.a h0_f).some_ hx1)) <| ev (Ev.loadCell na_3 rfl ((K4.a h0_f).flat_cell (j := 0) hx1 rfl)) ?_
  refine as_ rfl <| dn ?_
  have hs1 := sizeZ_ok (hN x1 (mem_of_get hx1))
  have hn1 := sizeN_le hs1.2.1
  have hf1 := flatz_len (k := k) hN hl
  refine rge <| mv rfl <| mv rfl ?_
  refine C0 K4 rfl rfl rfl cl_62 (Size_ok (S0 := Any) _ x1 (hI _ (mem_of_get hx1))) fun w5 K5 => ?_
  refine WL.re (t := 38) rfl (congrArg (Value.int .i64) (show (sizeZ x1 : Int) = ((sizeN x1.toNat : Nat) : Int) by exact hs1.2.2)) <| ev (Ev.conv_8 (m := sizeN x1.toNat) cv_3_5.1 cv_3_5.2.1 cv_3_5.2.2 rfl) ?_
  refine bs1 (τ := tByte) (x := (b8 (sizeN x1.toNat))) rfl (by intro _; apply bs_32_1_I) rfl K5 (fun _ _ => rfl) fun g3 w6 K6 => ?_
  refine ap (ys := ([(b8 (sizeN x1.toNat))] : List (BitVec 8))) K6 s1 rfl rfl (K6.o s0) Tryz.underlying32 ei_5 (by simp only [List.length_cons]; omega) (by simp) rfl fun Ap1 cp1 w7 K7 => ?_
  refine mv rfl <| WL.re (t := 42) rfl (congrArg (Value.int .i64) (show (x1 : Int) = ((x1.toNat : Nat) : Int) by omega)) <| mv rfl ?_
  refine C0 K7 rfl rfl rfl cl_62 (Size_ok (S0 := Any) _ x1 (hI _ (mem_of_get hx1))) fun w8 K8 => ?_
  refine WL.re (t := 44) rfl (congrArg (Value.int .i64) (show (sizeZ x1 : Int) = ((sizeN x1.toNat : Nat) : Int) by exact hs1.2.2)) <| WL.call rfl rfl rfl cl_121 (put_ok K8 x1.toNat (sizeN x1.toNat) (by omega) (by simp only [List.length_append, List.length_cons, List.length_nil]; omega)) rfl ?_
  rintro _ w9 ⟨A0_9, c0_9, rfl, K9⟩
  have hL9_0 := (K9.o s0).len_le
  refine as_ rfl <| dne ?_
  refine Pst.blk_norm (Pst.norm ?_)
  refine rge <| ev (Ev.add rfl rfl (I64.mk (by omega) (by omega))) <| mv rfl <| dne ?_
  have hq2 : ((((b8 f.N.length :: (nats (f.N.take k)).flatMap fldL) ++ ([(b8 (sizeN x1.toNat))] : List (BitVec 8))) ++ beB x1.toNat (sizeN x1.toNat)) : List (BitVec 8)) = (b8 f.N.length :: (nats (f.N.take (k + 1))).flatMap fldL) := by rw [flat_snoc hx1]; simp
  refine Pst.re (t := 5) rfl (congrArg (fun z => Value.slice A0_9 (List.length z) c0_9) hq2) ?_
  rw [hq2] at K9
  exact Pst.ag ⟨(k + 1), A0_9, c0_9, rfl, rfl, by omega, (K9.rm s1)⟩ rfl (by omega)
 replace hc33 := of_decide_eq_false hc33
 refine WP.exit (Pst.then_exit (Pst.then_exit (Pst.blk_eq (Pst.norm ?_))))
 have hf1 := flatz_len (k := k) hN hl
 refine He K4 (fun _ K => (K.rm s0)) (fun l0 rk lJ wJ => ∃ (Aj1 : Option Addr) (cj1 : Nat), lJ = (2, .slice Aj1 ((((b8 f.N.length :: (nats (f.N.take k)).flatMap fldL) ++ beB f.Data.length 2) ++ f.Data).length) cj1) :: l0 ∧ Hp w S0 wJ (rOwn tByte 5 Aj1 cj1 (((b8 f.N.length :: (nats (f.N.take k)).flatMap fldL) ++ beB f.Data.length 2) ++ f.Data) :: rk)) (fun hns H1 => ?_) ?_
 ·
  have k1 := (H1.rm s0)
  refine Tm 0 1 hns rfl rfl k1 <| Tn 1 3 hns rfl (fun _ _ => Ev.field (q := ⟨g1, 1, none⟩) fa_128_1 rfl rfl) k1 <| Tn 2 7 hns rfl (fun _ hK => Ev.loadBoxCell na_32 rfl (hK.x s0) rfl) k1 ?_
  refine Tn 3 15 hns rfl (fun _ _ => Ev.len Tryz.underlying32 rfl) k1 <| Tn 5 47 hns rfl (fun _ _ => Ev.field (q := ⟨g1, 1, none⟩) fa_128_1 rfl rfl) k1 <| Tn 6 111 hns rfl (fun _ hK => Ev.loadBoxCell na_32 rfl (hK.x s0) rfl) k1 ?_
  refine O1 4 rfl <| WL.call rfl rfl rfl cl_121 (put_ok H1 f.Data.length 2 (by omega) (by simp only [List.length_append, List.length_cons, List.length_nil]; omega)) rfl ?_
  rintro _ w10 ⟨A0_10, c0_10, rfl, K10⟩
  have hL10_0 := (K10.o s0).len_le
  have k2 := (K10.rm s0)
  refine WH.next k2 <| O1 7 rfl ?_
  refine ap (ys := f.Data) K10 s0 rfl rfl (K10.a h1_f).any Tryz.underlying32 ei_5 (by simp only [List.length_append, List.length_cons, beB_length]; omega) (by first | omega | (simp; omega) | (simp; done)) rfl fun Ap2 cp2 w11 K11 => ?_
  have k3 := (K11.rm s0)
  refine WH.next k3 <| Ta 8 511 hns rfl rfl k3 <| Ta 9 1023 hns rfl rfl k3 ?_
  exact Dn ⟨Ap2, cp2, rfl, K11⟩ rfl
 rintro _ w12 ⟨Aj1, cj1, rfl, K12⟩
 refine WP.ret (Pst.body_ret rfl rfl rfl ?_)
 have hq3 : ((((b8 f.N.length :: (nats (f.N.take k)).flatMap fldL) ++ beB f.Data.length 2) ++ f.Data) : List (BitVec 8)) = (packL (nats f.N)) := by rw [List.take_of_length_le (by omega), hd]; simp [packL, nats, beB02]
 rw [hq3] at K12
 exact ⟨Aj1, cj1, by rw [hq3] <;> rfl, (K12.rm s1)⟩

end Go.Proofs.YtlnjmkmhmbijmaaGreat
